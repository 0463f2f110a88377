/- The document's SHA-1. -/
import Derived.Test.YtomplpdeeomehaaShaSum
namespace Go.Proofs.Ytomplpdeeomehaa
set_option linter.unusedVariables false
set_option linter.unusedSimpArgs false
open Go.RowKit
namespace sha
--FACTS
theorem bits32 {x y : UInt32} (h : ∀ i, x.toBitVec.getLsbD i = y.toBitVec.getLsbD i) : x = y := UInt32.toBitVec_inj.1 (BitVec.eq_of_getLsbD_eq fun i _ => h i)
theorem ch_eq (b c d : UInt32) : (b &&& c) ||| (~~~b &&& d) = d ^^^ (b &&& (c ^^^ d)) := by
  apply bits32; intro i
  simp only [UInt32.toBitVec_or, UInt32.toBitVec_and, UInt32.toBitVec_xor, UInt32.toBitVec_not, BitVec.getLsbD_or, BitVec.getLsbD_and, BitVec.getLsbD_xor, BitVec.getLsbD_not]
  by_cases hi : i < 32
  · simp only [hi, decide_true, Bool.true_and]
    cases b.toBitVec.getLsbD i <;> cases c.toBitVec.getLsbD i <;> cases d.toBitVec.getLsbD i <;> rfl
  · have : d.toBitVec.getLsbD i = false := BitVec.getLsbD_of_ge _ _ (by omega)
    have : b.toBitVec.getLsbD i = false := BitVec.getLsbD_of_ge _ _ (by omega)
    simp_all
theorem maj_eq (b c d : UInt32) : (b &&& c) ||| (b &&& d) ||| (c &&& d) = (b &&& c) ||| (d &&& (b ||| c)) := by
  apply bits32; intro i
  simp only [UInt32.toBitVec_or, UInt32.toBitVec_and, UInt32.toBitVec_xor, UInt32.toBitVec_not, BitVec.getLsbD_or, BitVec.getLsbD_and, BitVec.getLsbD_xor, BitVec.getLsbD_not]
  cases b.toBitVec.getLsbD i <;> cases c.toBitVec.getLsbD i <;> cases d.toBitVec.getLsbD i <;> rfl
theorem ffR_0 {k : Nat} {b c d : UInt32} (h : k < 20) : ff (k / 20) b c d = (b &&& c) ||| (~~~b &&& d) := by rw [ch_eq, ff_0 (by omega)]
theorem ffR_1 {k : Nat} {b c d : UInt32} (h : 20 ≤ k) (h2 : k < 40) : ff (k / 20) b c d = b ^^^ c ^^^ d := ff_1 (by omega)
theorem ffR_2 {k : Nat} {b c d : UInt32} (h : 40 ≤ k) (h2 : k < 60) : ff (k / 20) b c d = (b &&& c) ||| (b &&& d) ||| (c &&& d) := by rw [maj_eq, ff_2 (by omega)]
theorem ffR_3 {k : Nat} {b c d : UInt32} (h : 60 ≤ k) : ff (k / 20) b c d = b ^^^ c ^^^ d := ff_3 (by omega) (by omega) (by omega)
theorem kkR_0 {k : Nat} (h : k < 20) : kk (k / 20) = 1518500249 := kk_0 (by omega)
theorem kkR_1 {k : Nat} (h : 20 ≤ k) (h2 : k < 40) : kk (k / 20) = 1859775393 := kk_1 (by omega)
theorem kkR_2 {k : Nat} (h : 40 ≤ k) (h2 : k < 60) : kk (k / 20) = 2400959708 := kk_2 (by omega)
theorem kkR_3 {k : Nat} (h : 60 ≤ k) : kk (k / 20) = 3395469782 := kk_3 (by omega) (by omega) (by omega)
theorem wordR (m : List UInt8) (o k : Nat) : shl32 (m.getD (o + 4 * k) 0).toUInt32 24 ||| shl32 (m.getD (o + 4 * k + 1) 0).toUInt32 16 ||| shl32 (m.getD (o + 4 * k + 2) 0).toUInt32 8 ||| (m.getD (o + 4 * k + 3) 0).toUInt32 = word (m.drop o) k := by
  simp only [word, getD_drop', Nat.add_assoc]
def rr (T : List UInt8) (j : Nat) : List UInt8 := T ++ ([128] ++ List.replicate j 0)
def rq (T : List UInt8) (i : Nat) : List UInt8 := T ++ ([128] ++ (List.replicate (zeros T.length) 0 ++ lenB (bitsN T) i))
theorem rr_0 (T : List UInt8) : ([] : List Value) ++ List.map v8 T ++ [Value.int .u8 128] = List.map v8 (rr T 0) := by simp [rr]
theorem rr_s (T : List UInt8) (j : Nat) : List.map v8 (rr T j) ++ [Value.int .u8 0] = List.map v8 (rr T (j + 1)) := by simp [rr, List.replicate_succ']
theorem rq_0 (T : List UInt8) : rr T (zeros T.length) = rq T 0 := by simp [rr, rq, lenB]
theorem rq_s (T : List UInt8) (j : Nat) : List.map v8 (rq T j) ++ [v8 (shr64 (bitsN T) (56 - 8 * j)).toUInt8] = List.map v8 (rq T (j + 1)) := by simp [rq, lenB_succ]
theorem list_len (s : S5) : s.list.length = 5 := rfl
theorem s5_list {H : List UInt32} (h : H.length = 5) : (s5 H).list = H := by
  match H, h with
  | [a, b, c, d, e], _ => rfl
end sha
end Go.Proofs.Ytomplpdeeomehaa
