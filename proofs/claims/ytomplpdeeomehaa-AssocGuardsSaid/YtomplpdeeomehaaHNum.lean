/- Integers for the logic: bytes and words as Lean's own, places as natural numbers. No program is named. -/
import Derived.Test.YtomplpdeeomehaaHOps
namespace Go.Proofs.Ytomplpdeeomehaa
set_option linter.unusedVariables false
set_option linter.unusedSimpArgs false
open Go.RowKit

theorem wrap_u8 (n : Int) : IntKind.u8.wrap n = n % 256 := by simp [IntKind.wrap, IntKind.bits, IntKind.signed]
theorem wrap_u16 (n : Int) : IntKind.u16.wrap n = n % 65536 := by simp [IntKind.wrap, IntKind.bits, IntKind.signed]
theorem wrap_u32 (n : Int) : IntKind.u32.wrap n = n % 4294967296 := by simp [IntKind.wrap, IntKind.bits, IntKind.signed]
theorem wrap_u64 (n : Int) : IntKind.u64.wrap n = n % 18446744073709551616 := by simp [IntKind.wrap, IntKind.bits, IntKind.signed]
theorem wrap_i64 (n : Int) (h1 : -9223372036854775808 ≤ n) (h2 : n ≤ 9223372036854775807) : IntKind.i64.wrap n = n := by
  simp [IntKind.wrap, IntKind.bits, IntKind.signed]; omega
theorem two63 : (9223372036854775808 : Nat) = 2 ^ 63 := by decide
-- places
theorem br_addN {m n : Nat} (h : m + n < 9223372036854775808) : BR .add .i64 m .i64 n (vN (m + n)) := fun P w t => by
  simp [binOp, Op.intArith, go_sem]; exact wrap_i64 _ (by omega) (by omega)
theorem br_subN {m n : Nat} (h : n ≤ m) (h2 : m < 9223372036854775808) : BR .sub .i64 m .i64 n (vN (m - n)) := fun P w t => by
  simp [binOp, Op.intArith, go_sem]; rw [wrap_i64 _ (by omega) (by omega)]; omega
theorem br_mulN {m n : Nat} (h : m * n < 9223372036854775808) : BR .mul .i64 m .i64 n (vN (m * n)) := fun P w t => by
  simp [binOp, Op.intArith, go_sem]; rw [wrap_i64 _ (by rw [← Int.natCast_mul]; omega) (by rw [← Int.natCast_mul]; omega)]
theorem br_quoN {m n : Nat} (h : 0 < n) (h2 : m < 9223372036854775808) : BR .quo .i64 m .i64 n (vN (m / n)) := fun P w t => by
  have : ¬ (n = 0) := by omega
  have hd : m / n ≤ m := Nat.div_le_self _ _
  simp [binOp, Op.intDiv, this, go_sem]
  rw [← Int.natCast_ediv]
  generalize m / n = q at hd ⊢
  exact wrap_i64 _ (by omega) (by omega)
theorem br_remN {m n : Nat} (h : 0 < n) : BR .rem .i64 m .i64 n (vN (m % n)) := fun P w t => by
  have : ¬ (n = 0) := by omega
  simp [binOp, Op.intDiv, this, go_sem]
  exact Int.tmod_eq_emod_of_nonneg (by omega)
theorem br_ltN {k : IntKind} {m n : Nat} : BR .lss k m k n (.bool (decide (m < n))) := fun P w t => by simp [binOp, Op.intCmp, go_sem]
theorem br_leN {k : IntKind} {m n : Nat} : BR .leq k m k n (.bool (decide (m ≤ n))) := fun P w t => by simp [binOp, Op.intCmp, go_sem]
theorem br_gtN {k : IntKind} {m n : Nat} : BR .gtr k m k n (.bool (decide (n < m))) := fun P w t => by simp [binOp, Op.intCmp, go_sem]
theorem br_geN {k : IntKind} {m n : Nat} : BR .geq k m k n (.bool (decide (n ≤ m))) := fun P w t => by simp [binOp, Op.intCmp, go_sem]
theorem br_eqN {k : IntKind} {m n : Nat} : BR .eql k m k n (.bool (decide (m = n))) := fun P w t => by
  simp [binOp, Op.intCmp, go_sem]; rw [Bool.eq_iff_iff]; simp; omega
theorem br_neN {k : IntKind} {m n : Nat} : BR .neq k m k n (.bool (!decide (m = n))) := fun P w t => by
  simp [binOp, Op.intCmp, go_sem]; rw [Bool.eq_iff_iff]; simp; omega
theorem br_subNu {m n : Nat} (h : n ≤ m) (h2 : m < 18446744073709551616) : BR .sub .u64 m .u64 n (.int .u64 ((m - n : Nat) : Int)) := fun P w t => by
  simp [binOp, Op.intArith, go_sem]; rw [wrap_u64]; omega
theorem br_addNu {m n : Nat} (h2 : m + n < 18446744073709551616) : BR .add .u64 m .u64 n (.int .u64 ((m + n : Nat) : Int)) := fun P w t => by
  simp [binOp, Op.intArith, go_sem]; rw [wrap_u64]; omega
-- integers, any
theorem br_addI {m n : Int} (h1 : -9223372036854775808 ≤ m + n) (h2 : m + n ≤ 9223372036854775807) : BR .add .i64 m .i64 n (.int .i64 (m + n)) := fun P w t => by
  simp [binOp, Op.intArith, go_sem]; exact wrap_i64 _ h1 h2
theorem br_subI {m n : Int} (h1 : -9223372036854775808 ≤ m - n) (h2 : m - n ≤ 9223372036854775807) : BR .sub .i64 m .i64 n (.int .i64 (m - n)) := fun P w t => by
  simp [binOp, Op.intArith, go_sem]; exact wrap_i64 _ h1 h2
theorem br_ltI {k : IntKind} {m n : Int} : BR .lss k m k n (.bool (decide (m < n))) := fun P w t => by simp [binOp, Op.intCmp, go_sem]
theorem br_leI {k : IntKind} {m n : Int} : BR .leq k m k n (.bool (decide (m ≤ n))) := fun P w t => by simp [binOp, Op.intCmp, go_sem]
theorem br_gtI {k : IntKind} {m n : Int} : BR .gtr k m k n (.bool (decide (n < m))) := fun P w t => by simp [binOp, Op.intCmp, go_sem]
theorem br_geI {k : IntKind} {m n : Int} : BR .geq k m k n (.bool (decide (n ≤ m))) := fun P w t => by simp [binOp, Op.intCmp, go_sem]
theorem br_eqI {k : IntKind} {m n : Int} : BR .eql k m k n (.bool (decide (m = n))) := fun P w t => by
  simp [binOp, Op.intCmp, go_sem]; rw [Bool.eq_iff_iff]; simp
theorem br_neI {k : IntKind} {m n : Int} : BR .neq k m k n (.bool (!decide (m = n))) := fun P w t => by
  simp [binOp, Op.intCmp, go_sem]; rw [Bool.eq_iff_iff]; simp

-- u8
def shl8 (x : UInt8) (n : Nat) : UInt8 := UInt8.ofNat (x.toNat * 2 ^ n)
def shr8 (x : UInt8) (n : Nat) : UInt8 := UInt8.ofNat (x.toNat / 2 ^ n)
theorem bv8 (x : UInt8) : BitVec.ofInt 8 (x.toNat : Int) = x.toBitVec := by
  apply BitVec.eq_of_toNat_eq
  simp
  try (have := x.toNat_lt; omega)
theorem in8 (x : UInt8) : (x.toNat : Int) % 256 = x.toNat := by have := x.toNat_lt; omega
theorem br_xor8 {x y : UInt8} : BR .xor .u8 x.toNat .u8 y.toNat (v8 (x ^^^ y)) := fun P w t => by
  show Result.ok (Value.int .u8 (IntKind.u8.wrap ((BitVec.ofInt 8 (x.toNat : Int) ^^^ BitVec.ofInt 8 (y.toNat : Int)).toNat : Nat))) w = _
  rw [bv8, bv8, wrap_u8]
  have := in8 (x ^^^ y)
  exact congrArg (fun z => Result.ok (Value.int .u8 z) w) this
theorem br_and8 {x y : UInt8} : BR .and .u8 x.toNat .u8 y.toNat (v8 (x &&& y)) := fun P w t => by
  show Result.ok (Value.int .u8 (IntKind.u8.wrap ((BitVec.ofInt 8 (x.toNat : Int) &&& BitVec.ofInt 8 (y.toNat : Int)).toNat : Nat))) w = _
  rw [bv8, bv8, wrap_u8]
  have := in8 (x &&& y)
  exact congrArg (fun z => Result.ok (Value.int .u8 z) w) this
theorem br_or8 {x y : UInt8} : BR .or .u8 x.toNat .u8 y.toNat (v8 (x ||| y)) := fun P w t => by
  show Result.ok (Value.int .u8 (IntKind.u8.wrap ((BitVec.ofInt 8 (x.toNat : Int) ||| BitVec.ofInt 8 (y.toNat : Int)).toNat : Nat))) w = _
  rw [bv8, bv8, wrap_u8]
  have := in8 (x ||| y)
  exact congrArg (fun z => Result.ok (Value.int .u8 z) w) this
theorem br_andNot8 {x y : UInt8} : BR .andNot .u8 x.toNat .u8 y.toNat (v8 (x &&& ~~~y)) := fun P w t => by
  show Result.ok (Value.int .u8 (IntKind.u8.wrap ((BitVec.ofInt 8 (x.toNat : Int) &&& ~~~BitVec.ofInt 8 (y.toNat : Int)).toNat : Nat))) w = _
  rw [bv8, bv8, wrap_u8]
  have := in8 (x &&& ~~~y)
  exact congrArg (fun z => Result.ok (Value.int .u8 z) w) this
theorem br_add8 {x y : UInt8} : BR .add .u8 x.toNat .u8 y.toNat (v8 (x + y)) := fun P w t => by
  simp [binOp, Op.intArith, go_sem, wrap_u8]
theorem br_sub8 {x y : UInt8} : BR .sub .u8 x.toNat .u8 y.toNat (v8 (x - y)) := fun P w t => by
  have := x.toNat_lt; have := y.toNat_lt
  simp [binOp, Op.intArith, go_sem, wrap_u8, UInt8.toNat_sub]; omega
theorem br_mul8 {x y : UInt8} : BR .mul .u8 x.toNat .u8 y.toNat (v8 (x * y)) := fun P w t => by
  simp [binOp, Op.intArith, go_sem, wrap_u8]
theorem br_shl8 {x : UInt8} {k : IntKind} {n : Nat} : BR .shl .u8 x.toNat k n (v8 (shl8 x n)) := fun P w t => by
  have hneg : ¬ ((n : Int) < 0) := by omega
  show (Op.shift .shl .u8 (x.toNat : Int) k (n : Int)).run P w = _
  unfold Op.shift
  rw [if_neg hneg]
  show Result.ok (Value.int .u8 (IntKind.u8.wrap ((x.toNat : Int) * 2 ^ (min (n : Int).toNat 8)))) w = _
  congr 2
  rw [wrap_u8, shl8]
  simp only [UInt8.toNat_ofNat', Int.toNat_natCast]
  by_cases h : n ≤ 8
  · rw [Nat.min_eq_left h]
    have : ((x.toNat * 2 ^ n : Nat) : Int) = (x.toNat : Int) * 2 ^ n := by rw [Int.natCast_mul, Int.natCast_pow]; rfl
    rw [← this]; omega
  · rw [Nat.min_eq_right (by omega)]
    obtain ⟨m, rfl⟩ : ∃ m, n = 8 + m := ⟨n - 8, by omega⟩
    have : x.toNat * 2 ^ (8 + m) % 2 ^ 8 = 0 := by rw [Nat.pow_add, ← Nat.mul_assoc, Nat.mul_right_comm]; exact Nat.mul_mod_left _ _
    simp only [this]
    omega
theorem br_shr8 {x : UInt8} {k : IntKind} {n : Nat} : BR .shr .u8 x.toNat k n (v8 (shr8 x n)) := fun P w t => by
  have hneg : ¬ ((n : Int) < 0) := by omega
  show (Op.shift .shr .u8 (x.toNat : Int) k (n : Int)).run P w = _
  unfold Op.shift
  rw [if_neg hneg]
  show Result.ok (Value.int .u8 ((x.toNat : Int).fdiv (2 ^ (min (n : Int).toNat 8)))) w = _
  congr 2
  have hx := x.toNat_lt
  rw [shr8, Int.fdiv_eq_ediv_of_nonneg _ (by exact Int.le_of_lt (Int.pow_pos (by decide)))]
  simp only [UInt8.toNat_ofNat', Int.toNat_natCast]
  have hle : x.toNat / 2 ^ n ≤ x.toNat := Nat.div_le_self _ _
  rw [Nat.mod_eq_of_lt (by omega)]
  by_cases h : n ≤ 8
  · rw [Nat.min_eq_left h, Int.natCast_ediv, Int.natCast_pow]; rfl
  · rw [Nat.min_eq_right (by omega)]
    have h2 : x.toNat / 2 ^ n = 0 := Nat.div_eq_of_lt (Nat.lt_of_lt_of_le hx (by
      have := Nat.pow_le_pow_right (n := 2) (by decide) (show 8 ≤ n by omega)
      omega))
    rw [h2]
    omega
theorem br_eq8 {x y : UInt8} : BR .eql .u8 x.toNat .u8 y.toNat (.bool (x == y)) := fun P w t => by
  simp [binOp, Op.intCmp, go_sem]; rw [Bool.eq_iff_iff]; simp [← UInt8.toNat_inj]; omega
theorem br_ne8 {x y : UInt8} : BR .neq .u8 x.toNat .u8 y.toNat (.bool (x != y)) := fun P w t => by
  simp [binOp, Op.intCmp, go_sem]; rw [Bool.eq_iff_iff]; simp [← UInt8.toNat_inj]; omega

-- u16
def shl16 (x : UInt16) (n : Nat) : UInt16 := UInt16.ofNat (x.toNat * 2 ^ n)
def shr16 (x : UInt16) (n : Nat) : UInt16 := UInt16.ofNat (x.toNat / 2 ^ n)
theorem bv16 (x : UInt16) : BitVec.ofInt 16 (x.toNat : Int) = x.toBitVec := by
  apply BitVec.eq_of_toNat_eq
  simp
  try (have := x.toNat_lt; omega)
theorem in16 (x : UInt16) : (x.toNat : Int) % 65536 = x.toNat := by have := x.toNat_lt; omega
theorem br_xor16 {x y : UInt16} : BR .xor .u16 x.toNat .u16 y.toNat (v16 (x ^^^ y)) := fun P w t => by
  show Result.ok (Value.int .u16 (IntKind.u16.wrap ((BitVec.ofInt 16 (x.toNat : Int) ^^^ BitVec.ofInt 16 (y.toNat : Int)).toNat : Nat))) w = _
  rw [bv16, bv16, wrap_u16]
  have := in16 (x ^^^ y)
  exact congrArg (fun z => Result.ok (Value.int .u16 z) w) this
theorem br_and16 {x y : UInt16} : BR .and .u16 x.toNat .u16 y.toNat (v16 (x &&& y)) := fun P w t => by
  show Result.ok (Value.int .u16 (IntKind.u16.wrap ((BitVec.ofInt 16 (x.toNat : Int) &&& BitVec.ofInt 16 (y.toNat : Int)).toNat : Nat))) w = _
  rw [bv16, bv16, wrap_u16]
  have := in16 (x &&& y)
  exact congrArg (fun z => Result.ok (Value.int .u16 z) w) this
theorem br_or16 {x y : UInt16} : BR .or .u16 x.toNat .u16 y.toNat (v16 (x ||| y)) := fun P w t => by
  show Result.ok (Value.int .u16 (IntKind.u16.wrap ((BitVec.ofInt 16 (x.toNat : Int) ||| BitVec.ofInt 16 (y.toNat : Int)).toNat : Nat))) w = _
  rw [bv16, bv16, wrap_u16]
  have := in16 (x ||| y)
  exact congrArg (fun z => Result.ok (Value.int .u16 z) w) this
theorem br_andNot16 {x y : UInt16} : BR .andNot .u16 x.toNat .u16 y.toNat (v16 (x &&& ~~~y)) := fun P w t => by
  show Result.ok (Value.int .u16 (IntKind.u16.wrap ((BitVec.ofInt 16 (x.toNat : Int) &&& ~~~BitVec.ofInt 16 (y.toNat : Int)).toNat : Nat))) w = _
  rw [bv16, bv16, wrap_u16]
  have := in16 (x &&& ~~~y)
  exact congrArg (fun z => Result.ok (Value.int .u16 z) w) this
theorem br_add16 {x y : UInt16} : BR .add .u16 x.toNat .u16 y.toNat (v16 (x + y)) := fun P w t => by
  simp [binOp, Op.intArith, go_sem, wrap_u16]
theorem br_sub16 {x y : UInt16} : BR .sub .u16 x.toNat .u16 y.toNat (v16 (x - y)) := fun P w t => by
  have := x.toNat_lt; have := y.toNat_lt
  simp [binOp, Op.intArith, go_sem, wrap_u16, UInt16.toNat_sub]; omega
theorem br_mul16 {x y : UInt16} : BR .mul .u16 x.toNat .u16 y.toNat (v16 (x * y)) := fun P w t => by
  simp [binOp, Op.intArith, go_sem, wrap_u16]
theorem br_shl16 {x : UInt16} {k : IntKind} {n : Nat} : BR .shl .u16 x.toNat k n (v16 (shl16 x n)) := fun P w t => by
  have hneg : ¬ ((n : Int) < 0) := by omega
  show (Op.shift .shl .u16 (x.toNat : Int) k (n : Int)).run P w = _
  unfold Op.shift
  rw [if_neg hneg]
  show Result.ok (Value.int .u16 (IntKind.u16.wrap ((x.toNat : Int) * 2 ^ (min (n : Int).toNat 16)))) w = _
  congr 2
  rw [wrap_u16, shl16]
  simp only [UInt16.toNat_ofNat', Int.toNat_natCast]
  by_cases h : n ≤ 16
  · rw [Nat.min_eq_left h]
    have : ((x.toNat * 2 ^ n : Nat) : Int) = (x.toNat : Int) * 2 ^ n := by rw [Int.natCast_mul, Int.natCast_pow]; rfl
    rw [← this]; omega
  · rw [Nat.min_eq_right (by omega)]
    obtain ⟨m, rfl⟩ : ∃ m, n = 16 + m := ⟨n - 16, by omega⟩
    have : x.toNat * 2 ^ (16 + m) % 2 ^ 16 = 0 := by rw [Nat.pow_add, ← Nat.mul_assoc, Nat.mul_right_comm]; exact Nat.mul_mod_left _ _
    simp only [this]
    omega
theorem br_shr16 {x : UInt16} {k : IntKind} {n : Nat} : BR .shr .u16 x.toNat k n (v16 (shr16 x n)) := fun P w t => by
  have hneg : ¬ ((n : Int) < 0) := by omega
  show (Op.shift .shr .u16 (x.toNat : Int) k (n : Int)).run P w = _
  unfold Op.shift
  rw [if_neg hneg]
  show Result.ok (Value.int .u16 ((x.toNat : Int).fdiv (2 ^ (min (n : Int).toNat 16)))) w = _
  congr 2
  have hx := x.toNat_lt
  rw [shr16, Int.fdiv_eq_ediv_of_nonneg _ (by exact Int.le_of_lt (Int.pow_pos (by decide)))]
  simp only [UInt16.toNat_ofNat', Int.toNat_natCast]
  have hle : x.toNat / 2 ^ n ≤ x.toNat := Nat.div_le_self _ _
  rw [Nat.mod_eq_of_lt (by omega)]
  by_cases h : n ≤ 16
  · rw [Nat.min_eq_left h, Int.natCast_ediv, Int.natCast_pow]; rfl
  · rw [Nat.min_eq_right (by omega)]
    have h2 : x.toNat / 2 ^ n = 0 := Nat.div_eq_of_lt (Nat.lt_of_lt_of_le hx (by
      have := Nat.pow_le_pow_right (n := 2) (by decide) (show 16 ≤ n by omega)
      omega))
    rw [h2]
    omega
theorem br_eq16 {x y : UInt16} : BR .eql .u16 x.toNat .u16 y.toNat (.bool (x == y)) := fun P w t => by
  simp [binOp, Op.intCmp, go_sem]; rw [Bool.eq_iff_iff]; simp [← UInt16.toNat_inj]; omega
theorem br_ne16 {x y : UInt16} : BR .neq .u16 x.toNat .u16 y.toNat (.bool (x != y)) := fun P w t => by
  simp [binOp, Op.intCmp, go_sem]; rw [Bool.eq_iff_iff]; simp [← UInt16.toNat_inj]; omega

-- u32
def shl32 (x : UInt32) (n : Nat) : UInt32 := UInt32.ofNat (x.toNat * 2 ^ n)
def shr32 (x : UInt32) (n : Nat) : UInt32 := UInt32.ofNat (x.toNat / 2 ^ n)
theorem bv32 (x : UInt32) : BitVec.ofInt 32 (x.toNat : Int) = x.toBitVec := by
  apply BitVec.eq_of_toNat_eq
  simp
  try (have := x.toNat_lt; omega)
theorem in32 (x : UInt32) : (x.toNat : Int) % 4294967296 = x.toNat := by have := x.toNat_lt; omega
theorem br_xor32 {x y : UInt32} : BR .xor .u32 x.toNat .u32 y.toNat (v32 (x ^^^ y)) := fun P w t => by
  show Result.ok (Value.int .u32 (IntKind.u32.wrap ((BitVec.ofInt 32 (x.toNat : Int) ^^^ BitVec.ofInt 32 (y.toNat : Int)).toNat : Nat))) w = _
  rw [bv32, bv32, wrap_u32]
  have := in32 (x ^^^ y)
  exact congrArg (fun z => Result.ok (Value.int .u32 z) w) this
theorem br_and32 {x y : UInt32} : BR .and .u32 x.toNat .u32 y.toNat (v32 (x &&& y)) := fun P w t => by
  show Result.ok (Value.int .u32 (IntKind.u32.wrap ((BitVec.ofInt 32 (x.toNat : Int) &&& BitVec.ofInt 32 (y.toNat : Int)).toNat : Nat))) w = _
  rw [bv32, bv32, wrap_u32]
  have := in32 (x &&& y)
  exact congrArg (fun z => Result.ok (Value.int .u32 z) w) this
theorem br_or32 {x y : UInt32} : BR .or .u32 x.toNat .u32 y.toNat (v32 (x ||| y)) := fun P w t => by
  show Result.ok (Value.int .u32 (IntKind.u32.wrap ((BitVec.ofInt 32 (x.toNat : Int) ||| BitVec.ofInt 32 (y.toNat : Int)).toNat : Nat))) w = _
  rw [bv32, bv32, wrap_u32]
  have := in32 (x ||| y)
  exact congrArg (fun z => Result.ok (Value.int .u32 z) w) this
theorem br_andNot32 {x y : UInt32} : BR .andNot .u32 x.toNat .u32 y.toNat (v32 (x &&& ~~~y)) := fun P w t => by
  show Result.ok (Value.int .u32 (IntKind.u32.wrap ((BitVec.ofInt 32 (x.toNat : Int) &&& ~~~BitVec.ofInt 32 (y.toNat : Int)).toNat : Nat))) w = _
  rw [bv32, bv32, wrap_u32]
  have := in32 (x &&& ~~~y)
  exact congrArg (fun z => Result.ok (Value.int .u32 z) w) this
theorem br_add32 {x y : UInt32} : BR .add .u32 x.toNat .u32 y.toNat (v32 (x + y)) := fun P w t => by
  simp [binOp, Op.intArith, go_sem, wrap_u32]
theorem br_sub32 {x y : UInt32} : BR .sub .u32 x.toNat .u32 y.toNat (v32 (x - y)) := fun P w t => by
  have := x.toNat_lt; have := y.toNat_lt
  simp [binOp, Op.intArith, go_sem, wrap_u32, UInt32.toNat_sub]; omega
theorem br_mul32 {x y : UInt32} : BR .mul .u32 x.toNat .u32 y.toNat (v32 (x * y)) := fun P w t => by
  simp [binOp, Op.intArith, go_sem, wrap_u32]
theorem br_shl32 {x : UInt32} {k : IntKind} {n : Nat} : BR .shl .u32 x.toNat k n (v32 (shl32 x n)) := fun P w t => by
  have hneg : ¬ ((n : Int) < 0) := by omega
  show (Op.shift .shl .u32 (x.toNat : Int) k (n : Int)).run P w = _
  unfold Op.shift
  rw [if_neg hneg]
  show Result.ok (Value.int .u32 (IntKind.u32.wrap ((x.toNat : Int) * 2 ^ (min (n : Int).toNat 32)))) w = _
  congr 2
  rw [wrap_u32, shl32]
  simp only [UInt32.toNat_ofNat', Int.toNat_natCast]
  by_cases h : n ≤ 32
  · rw [Nat.min_eq_left h]
    have : ((x.toNat * 2 ^ n : Nat) : Int) = (x.toNat : Int) * 2 ^ n := by rw [Int.natCast_mul, Int.natCast_pow]; rfl
    rw [← this]; omega
  · rw [Nat.min_eq_right (by omega)]
    obtain ⟨m, rfl⟩ : ∃ m, n = 32 + m := ⟨n - 32, by omega⟩
    have : x.toNat * 2 ^ (32 + m) % 2 ^ 32 = 0 := by rw [Nat.pow_add, ← Nat.mul_assoc, Nat.mul_right_comm]; exact Nat.mul_mod_left _ _
    simp only [this]
    omega
theorem br_shr32 {x : UInt32} {k : IntKind} {n : Nat} : BR .shr .u32 x.toNat k n (v32 (shr32 x n)) := fun P w t => by
  have hneg : ¬ ((n : Int) < 0) := by omega
  show (Op.shift .shr .u32 (x.toNat : Int) k (n : Int)).run P w = _
  unfold Op.shift
  rw [if_neg hneg]
  show Result.ok (Value.int .u32 ((x.toNat : Int).fdiv (2 ^ (min (n : Int).toNat 32)))) w = _
  congr 2
  have hx := x.toNat_lt
  rw [shr32, Int.fdiv_eq_ediv_of_nonneg _ (by exact Int.le_of_lt (Int.pow_pos (by decide)))]
  simp only [UInt32.toNat_ofNat', Int.toNat_natCast]
  have hle : x.toNat / 2 ^ n ≤ x.toNat := Nat.div_le_self _ _
  rw [Nat.mod_eq_of_lt (by omega)]
  by_cases h : n ≤ 32
  · rw [Nat.min_eq_left h, Int.natCast_ediv, Int.natCast_pow]; rfl
  · rw [Nat.min_eq_right (by omega)]
    have h2 : x.toNat / 2 ^ n = 0 := Nat.div_eq_of_lt (Nat.lt_of_lt_of_le hx (by
      have := Nat.pow_le_pow_right (n := 2) (by decide) (show 32 ≤ n by omega)
      omega))
    rw [h2]
    omega
theorem br_eq32 {x y : UInt32} : BR .eql .u32 x.toNat .u32 y.toNat (.bool (x == y)) := fun P w t => by
  simp [binOp, Op.intCmp, go_sem]; rw [Bool.eq_iff_iff]; simp [← UInt32.toNat_inj]; omega
theorem br_ne32 {x y : UInt32} : BR .neq .u32 x.toNat .u32 y.toNat (.bool (x != y)) := fun P w t => by
  simp [binOp, Op.intCmp, go_sem]; rw [Bool.eq_iff_iff]; simp [← UInt32.toNat_inj]; omega

-- u64
def shl64 (x : UInt64) (n : Nat) : UInt64 := UInt64.ofNat (x.toNat * 2 ^ n)
def shr64 (x : UInt64) (n : Nat) : UInt64 := UInt64.ofNat (x.toNat / 2 ^ n)
theorem bv64 (x : UInt64) : BitVec.ofInt 64 (x.toNat : Int) = x.toBitVec := by
  apply BitVec.eq_of_toNat_eq
  simp
  try (have := x.toNat_lt; omega)
theorem in64 (x : UInt64) : (x.toNat : Int) % 18446744073709551616 = x.toNat := by have := x.toNat_lt; omega
theorem br_xor64 {x y : UInt64} : BR .xor .u64 x.toNat .u64 y.toNat (v64 (x ^^^ y)) := fun P w t => by
  show Result.ok (Value.int .u64 (IntKind.u64.wrap ((BitVec.ofInt 64 (x.toNat : Int) ^^^ BitVec.ofInt 64 (y.toNat : Int)).toNat : Nat))) w = _
  rw [bv64, bv64, wrap_u64]
  have := in64 (x ^^^ y)
  exact congrArg (fun z => Result.ok (Value.int .u64 z) w) this
theorem br_and64 {x y : UInt64} : BR .and .u64 x.toNat .u64 y.toNat (v64 (x &&& y)) := fun P w t => by
  show Result.ok (Value.int .u64 (IntKind.u64.wrap ((BitVec.ofInt 64 (x.toNat : Int) &&& BitVec.ofInt 64 (y.toNat : Int)).toNat : Nat))) w = _
  rw [bv64, bv64, wrap_u64]
  have := in64 (x &&& y)
  exact congrArg (fun z => Result.ok (Value.int .u64 z) w) this
theorem br_or64 {x y : UInt64} : BR .or .u64 x.toNat .u64 y.toNat (v64 (x ||| y)) := fun P w t => by
  show Result.ok (Value.int .u64 (IntKind.u64.wrap ((BitVec.ofInt 64 (x.toNat : Int) ||| BitVec.ofInt 64 (y.toNat : Int)).toNat : Nat))) w = _
  rw [bv64, bv64, wrap_u64]
  have := in64 (x ||| y)
  exact congrArg (fun z => Result.ok (Value.int .u64 z) w) this
theorem br_andNot64 {x y : UInt64} : BR .andNot .u64 x.toNat .u64 y.toNat (v64 (x &&& ~~~y)) := fun P w t => by
  show Result.ok (Value.int .u64 (IntKind.u64.wrap ((BitVec.ofInt 64 (x.toNat : Int) &&& ~~~BitVec.ofInt 64 (y.toNat : Int)).toNat : Nat))) w = _
  rw [bv64, bv64, wrap_u64]
  have := in64 (x &&& ~~~y)
  exact congrArg (fun z => Result.ok (Value.int .u64 z) w) this
theorem br_add64 {x y : UInt64} : BR .add .u64 x.toNat .u64 y.toNat (v64 (x + y)) := fun P w t => by
  simp [binOp, Op.intArith, go_sem, wrap_u64]
theorem br_sub64 {x y : UInt64} : BR .sub .u64 x.toNat .u64 y.toNat (v64 (x - y)) := fun P w t => by
  have := x.toNat_lt; have := y.toNat_lt
  simp [binOp, Op.intArith, go_sem, wrap_u64, UInt64.toNat_sub]; omega
theorem br_mul64 {x y : UInt64} : BR .mul .u64 x.toNat .u64 y.toNat (v64 (x * y)) := fun P w t => by
  simp [binOp, Op.intArith, go_sem, wrap_u64]
theorem br_shl64 {x : UInt64} {k : IntKind} {n : Nat} : BR .shl .u64 x.toNat k n (v64 (shl64 x n)) := fun P w t => by
  have hneg : ¬ ((n : Int) < 0) := by omega
  show (Op.shift .shl .u64 (x.toNat : Int) k (n : Int)).run P w = _
  unfold Op.shift
  rw [if_neg hneg]
  show Result.ok (Value.int .u64 (IntKind.u64.wrap ((x.toNat : Int) * 2 ^ (min (n : Int).toNat 64)))) w = _
  congr 2
  rw [wrap_u64, shl64]
  simp only [UInt64.toNat_ofNat', Int.toNat_natCast]
  by_cases h : n ≤ 64
  · rw [Nat.min_eq_left h]
    have : ((x.toNat * 2 ^ n : Nat) : Int) = (x.toNat : Int) * 2 ^ n := by rw [Int.natCast_mul, Int.natCast_pow]; rfl
    rw [← this]; omega
  · rw [Nat.min_eq_right (by omega)]
    obtain ⟨m, rfl⟩ : ∃ m, n = 64 + m := ⟨n - 64, by omega⟩
    have : x.toNat * 2 ^ (64 + m) % 2 ^ 64 = 0 := by rw [Nat.pow_add, ← Nat.mul_assoc, Nat.mul_right_comm]; exact Nat.mul_mod_left _ _
    simp only [this]
    omega
theorem br_shr64 {x : UInt64} {k : IntKind} {n : Nat} : BR .shr .u64 x.toNat k n (v64 (shr64 x n)) := fun P w t => by
  have hneg : ¬ ((n : Int) < 0) := by omega
  show (Op.shift .shr .u64 (x.toNat : Int) k (n : Int)).run P w = _
  unfold Op.shift
  rw [if_neg hneg]
  show Result.ok (Value.int .u64 ((x.toNat : Int).fdiv (2 ^ (min (n : Int).toNat 64)))) w = _
  congr 2
  have hx := x.toNat_lt
  rw [shr64, Int.fdiv_eq_ediv_of_nonneg _ (by exact Int.le_of_lt (Int.pow_pos (by decide)))]
  simp only [UInt64.toNat_ofNat', Int.toNat_natCast]
  have hle : x.toNat / 2 ^ n ≤ x.toNat := Nat.div_le_self _ _
  rw [Nat.mod_eq_of_lt (by omega)]
  by_cases h : n ≤ 64
  · rw [Nat.min_eq_left h, Int.natCast_ediv, Int.natCast_pow]; rfl
  · rw [Nat.min_eq_right (by omega)]
    have h2 : x.toNat / 2 ^ n = 0 := Nat.div_eq_of_lt (Nat.lt_of_lt_of_le hx (by
      have := Nat.pow_le_pow_right (n := 2) (by decide) (show 64 ≤ n by omega)
      omega))
    rw [h2]
    omega
theorem br_eq64 {x y : UInt64} : BR .eql .u64 x.toNat .u64 y.toNat (.bool (x == y)) := fun P w t => by
  simp [binOp, Op.intCmp, go_sem]; rw [Bool.eq_iff_iff]; simp [← UInt64.toNat_inj]; omega
theorem br_ne64 {x y : UInt64} : BR .neq .u64 x.toNat .u64 y.toNat (.bool (x != y)) := fun P w t => by
  simp [binOp, Op.intCmp, go_sem]; rw [Bool.eq_iff_iff]; simp [← UInt64.toNat_inj]; omega


-- conversions
theorem cv_8_8 {x : UInt8} : IntKind.u8.wrap (x.toNat : Int) = ((x).toNat : Int) := by
  have := x.toNat_lt; simp [wrap_u8]; try omega
theorem cv_8_16 {x : UInt8} : IntKind.u16.wrap (x.toNat : Int) = ((x.toUInt16).toNat : Int) := by
  have := x.toNat_lt; simp [wrap_u16]; try omega
theorem cv_8_32 {x : UInt8} : IntKind.u32.wrap (x.toNat : Int) = ((x.toUInt32).toNat : Int) := by
  have := x.toNat_lt; simp [wrap_u32]; try omega
theorem cv_8_64 {x : UInt8} : IntKind.u64.wrap (x.toNat : Int) = ((x.toUInt64).toNat : Int) := by
  have := x.toNat_lt; simp [wrap_u64]; try omega
theorem cv_8_N {x : UInt8} : IntKind.i64.wrap (x.toNat : Int) = ((x.toNat : Nat) : Int) := by
  have := x.toNat_lt; exact wrap_i64 _ (by omega) (by omega)
theorem cv_N_8 {n : Nat} : IntKind.u8.wrap (n : Int) = ((UInt8.ofNat n).toNat : Int) := by
  simp [wrap_u8]
theorem cv_16_8 {x : UInt16} : IntKind.u8.wrap (x.toNat : Int) = ((x.toUInt8).toNat : Int) := by
  have := x.toNat_lt; simp [wrap_u8]; try omega
theorem cv_16_16 {x : UInt16} : IntKind.u16.wrap (x.toNat : Int) = ((x).toNat : Int) := by
  have := x.toNat_lt; simp [wrap_u16]; try omega
theorem cv_16_32 {x : UInt16} : IntKind.u32.wrap (x.toNat : Int) = ((x.toUInt32).toNat : Int) := by
  have := x.toNat_lt; simp [wrap_u32]; try omega
theorem cv_16_64 {x : UInt16} : IntKind.u64.wrap (x.toNat : Int) = ((x.toUInt64).toNat : Int) := by
  have := x.toNat_lt; simp [wrap_u64]; try omega
theorem cv_16_N {x : UInt16} : IntKind.i64.wrap (x.toNat : Int) = ((x.toNat : Nat) : Int) := by
  have := x.toNat_lt; exact wrap_i64 _ (by omega) (by omega)
theorem cv_N_16 {n : Nat} : IntKind.u16.wrap (n : Int) = ((UInt16.ofNat n).toNat : Int) := by
  simp [wrap_u16]
theorem cv_32_8 {x : UInt32} : IntKind.u8.wrap (x.toNat : Int) = ((x.toUInt8).toNat : Int) := by
  have := x.toNat_lt; simp [wrap_u8]; try omega
theorem cv_32_16 {x : UInt32} : IntKind.u16.wrap (x.toNat : Int) = ((x.toUInt16).toNat : Int) := by
  have := x.toNat_lt; simp [wrap_u16]; try omega
theorem cv_32_32 {x : UInt32} : IntKind.u32.wrap (x.toNat : Int) = ((x).toNat : Int) := by
  have := x.toNat_lt; simp [wrap_u32]; try omega
theorem cv_32_64 {x : UInt32} : IntKind.u64.wrap (x.toNat : Int) = ((x.toUInt64).toNat : Int) := by
  have := x.toNat_lt; simp [wrap_u64]; try omega
theorem cv_32_N {x : UInt32} : IntKind.i64.wrap (x.toNat : Int) = ((x.toNat : Nat) : Int) := by
  have := x.toNat_lt; exact wrap_i64 _ (by omega) (by omega)
theorem cv_N_32 {n : Nat} : IntKind.u32.wrap (n : Int) = ((UInt32.ofNat n).toNat : Int) := by
  simp [wrap_u32]
theorem cv_64_8 {x : UInt64} : IntKind.u8.wrap (x.toNat : Int) = ((x.toUInt8).toNat : Int) := by
  have := x.toNat_lt; simp [wrap_u8]; try omega
theorem cv_64_16 {x : UInt64} : IntKind.u16.wrap (x.toNat : Int) = ((x.toUInt16).toNat : Int) := by
  have := x.toNat_lt; simp [wrap_u16]; try omega
theorem cv_64_32 {x : UInt64} : IntKind.u32.wrap (x.toNat : Int) = ((x.toUInt32).toNat : Int) := by
  have := x.toNat_lt; simp [wrap_u32]; try omega
theorem cv_64_64 {x : UInt64} : IntKind.u64.wrap (x.toNat : Int) = ((x).toNat : Int) := by
  have := x.toNat_lt; simp [wrap_u64]; try omega
theorem cv_64_N {x : UInt64} (h : x.toNat < 9223372036854775808) : IntKind.i64.wrap (x.toNat : Int) = ((x.toNat : Nat) : Int) := by
  have := x.toNat_lt; exact wrap_i64 _ (by omega) (by omega)
theorem cv_N_64 {n : Nat} : IntKind.u64.wrap (n : Int) = ((UInt64.ofNat n).toNat : Int) := by
  simp [wrap_u64]
theorem cv_N_N {n : Nat} (h : n < 9223372036854775808) : IntKind.i64.wrap (n : Int) = (n : Int) := wrap_i64 _ (by omega) (by omega)

-- unary
theorem Y.neg8 {P : Program} {N : Nat} {F : FE} {As : List SA} {o : Oper} {x : Operand} {t : TypeId} {b : UInt8} (ho : o.op = .unOp .neg t x) (hx : evO F x = some (v8 b)) : Yld P N o F As (v8 (-b)) := fun a w ha _ => by
  unfold execOp; rw [ho]
  replace hx := ha.eval hx
  generalize a.eval = ρ at hx ⊢
  have := b.toNat_lt
  have h : IntKind.u8.wrap (0 - (b.toNat : Int)) = ((-b).toNat : Int) := by
    rw [wrap_u8, UInt8.toNat_neg]; simp only [UInt8.size]; omega
  simp [hx, Op.unary, Op.intArith, go_sem]
  simpa using h
theorem Y.xor8 {P : Program} {N : Nat} {F : FE} {As : List SA} {o : Oper} {x : Operand} {t : TypeId} {b : UInt8} (ho : o.op = .unOp .xor t x) (hx : evO F x = some (v8 b)) : Yld P N o F As (v8 (~~~b)) := fun a w ha _ => by
  unfold execOp; rw [ho]
  replace hx := ha.eval hx
  generalize a.eval = ρ at hx ⊢
  simp only [hx]
  show Result.ok (Next.value (Value.int .u8 (IntKind.u8.wrap ((BitVec.ofInt 8 (255 : Int) ^^^ BitVec.ofInt 8 (b.toNat : Int)).toNat : Nat)))) w = _
  have h1 : BitVec.ofInt 8 (255 : Int) = BitVec.allOnes 8 := by decide
  rw [bv8, wrap_u8, h1, BitVec.allOnes_xor]
  have := in8 (~~~b)
  exact congrArg (fun z => Result.ok (Next.value (Value.int .u8 z)) w) this
theorem Y.neg16 {P : Program} {N : Nat} {F : FE} {As : List SA} {o : Oper} {x : Operand} {t : TypeId} {b : UInt16} (ho : o.op = .unOp .neg t x) (hx : evO F x = some (v16 b)) : Yld P N o F As (v16 (-b)) := fun a w ha _ => by
  unfold execOp; rw [ho]
  replace hx := ha.eval hx
  generalize a.eval = ρ at hx ⊢
  have := b.toNat_lt
  have h : IntKind.u16.wrap (0 - (b.toNat : Int)) = ((-b).toNat : Int) := by
    rw [wrap_u16, UInt16.toNat_neg]; simp only [UInt16.size]; omega
  simp [hx, Op.unary, Op.intArith, go_sem]
  simpa using h
theorem Y.xor16 {P : Program} {N : Nat} {F : FE} {As : List SA} {o : Oper} {x : Operand} {t : TypeId} {b : UInt16} (ho : o.op = .unOp .xor t x) (hx : evO F x = some (v16 b)) : Yld P N o F As (v16 (~~~b)) := fun a w ha _ => by
  unfold execOp; rw [ho]
  replace hx := ha.eval hx
  generalize a.eval = ρ at hx ⊢
  simp only [hx]
  show Result.ok (Next.value (Value.int .u16 (IntKind.u16.wrap ((BitVec.ofInt 16 (65535 : Int) ^^^ BitVec.ofInt 16 (b.toNat : Int)).toNat : Nat)))) w = _
  have h1 : BitVec.ofInt 16 (65535 : Int) = BitVec.allOnes 16 := by decide
  rw [bv16, wrap_u16, h1, BitVec.allOnes_xor]
  have := in16 (~~~b)
  exact congrArg (fun z => Result.ok (Next.value (Value.int .u16 z)) w) this
theorem Y.neg32 {P : Program} {N : Nat} {F : FE} {As : List SA} {o : Oper} {x : Operand} {t : TypeId} {b : UInt32} (ho : o.op = .unOp .neg t x) (hx : evO F x = some (v32 b)) : Yld P N o F As (v32 (-b)) := fun a w ha _ => by
  unfold execOp; rw [ho]
  replace hx := ha.eval hx
  generalize a.eval = ρ at hx ⊢
  have := b.toNat_lt
  have h : IntKind.u32.wrap (0 - (b.toNat : Int)) = ((-b).toNat : Int) := by
    rw [wrap_u32, UInt32.toNat_neg]; simp only [UInt32.size]; omega
  simp [hx, Op.unary, Op.intArith, go_sem]
  simpa using h
theorem Y.xor32 {P : Program} {N : Nat} {F : FE} {As : List SA} {o : Oper} {x : Operand} {t : TypeId} {b : UInt32} (ho : o.op = .unOp .xor t x) (hx : evO F x = some (v32 b)) : Yld P N o F As (v32 (~~~b)) := fun a w ha _ => by
  unfold execOp; rw [ho]
  replace hx := ha.eval hx
  generalize a.eval = ρ at hx ⊢
  simp only [hx]
  show Result.ok (Next.value (Value.int .u32 (IntKind.u32.wrap ((BitVec.ofInt 32 (4294967295 : Int) ^^^ BitVec.ofInt 32 (b.toNat : Int)).toNat : Nat)))) w = _
  have h1 : BitVec.ofInt 32 (4294967295 : Int) = BitVec.allOnes 32 := by decide
  rw [bv32, wrap_u32, h1, BitVec.allOnes_xor]
  have := in32 (~~~b)
  exact congrArg (fun z => Result.ok (Next.value (Value.int .u32 z)) w) this
theorem Y.neg64 {P : Program} {N : Nat} {F : FE} {As : List SA} {o : Oper} {x : Operand} {t : TypeId} {b : UInt64} (ho : o.op = .unOp .neg t x) (hx : evO F x = some (v64 b)) : Yld P N o F As (v64 (-b)) := fun a w ha _ => by
  unfold execOp; rw [ho]
  replace hx := ha.eval hx
  generalize a.eval = ρ at hx ⊢
  have := b.toNat_lt
  have h : IntKind.u64.wrap (0 - (b.toNat : Int)) = ((-b).toNat : Int) := by
    rw [wrap_u64, UInt64.toNat_neg]; simp only [UInt64.size]; omega
  simp [hx, Op.unary, Op.intArith, go_sem]
  simpa using h
theorem Y.xor64 {P : Program} {N : Nat} {F : FE} {As : List SA} {o : Oper} {x : Operand} {t : TypeId} {b : UInt64} (ho : o.op = .unOp .xor t x) (hx : evO F x = some (v64 b)) : Yld P N o F As (v64 (~~~b)) := fun a w ha _ => by
  unfold execOp; rw [ho]
  replace hx := ha.eval hx
  generalize a.eval = ρ at hx ⊢
  simp only [hx]
  show Result.ok (Next.value (Value.int .u64 (IntKind.u64.wrap ((BitVec.ofInt 64 (18446744073709551615 : Int) ^^^ BitVec.ofInt 64 (b.toNat : Int)).toNat : Nat)))) w = _
  have h1 : BitVec.ofInt 64 (18446744073709551615 : Int) = BitVec.allOnes 64 := by decide
  rw [bv64, wrap_u64, h1, BitVec.allOnes_xor]
  have := in64 (~~~b)
  exact congrArg (fun z => Result.ok (Next.value (Value.int .u64 z)) w) this
theorem cv_N_64n {n : Nat} (h : n < 18446744073709551616) : IntKind.u64.wrap (n : Int) = (n : Int) := by rw [wrap_u64]; omega
theorem cv_64n_N {n : Nat} (h : n < 9223372036854775808) : IntKind.i64.wrap (n : Int) = (n : Int) := wrap_i64 _ (by omega) (by omega)
end Go.Proofs.Ytomplpdeeomehaa
