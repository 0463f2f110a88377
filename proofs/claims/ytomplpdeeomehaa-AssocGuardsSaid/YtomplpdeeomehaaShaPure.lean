/- SHA-1 as plain functions: blocks one by one, padding. -/
import Derived.Test.YtomplpdeeomehaaShaBlock
namespace Go.Proofs.Ytomplpdeeomehaa
set_option linter.unusedVariables false
set_option linter.unusedSimpArgs false
open Go.RowKit
namespace sha

theorem word_congr {x y : List UInt8} (h : ∀ i, i < 64 → x.getD i 0 = y.getD i 0) {k : Nat} (hk : k < 16) : word x k = word y k := by
  simp only [word]
  rw [h _ (by omega), h _ (by omega), h _ (by omega), h _ (by omega)]
theorem fill1_congr {x y : List UInt8} (h : ∀ i, i < 64 → x.getD i 0 = y.getD i 0) : ∀ k, k ≤ 16 → fill1 x k = fill1 y k
  | 0, _ => rfl
  | k + 1, hk => by rw [fill1, fill1, fill1_congr h k (by omega), word_congr h (by omega)]
theorem fill2_congr {x y : List UInt8} (h : ∀ i, i < 64 → x.getD i 0 = y.getD i 0) : ∀ k, fill2 x k = fill2 y k
  | 0 => fill1_congr h 16 (Nat.le_refl _)
  | k + 1 => by rw [fill2, fill2, fill2_congr h k]
theorem block_congr {hs : List UInt32} {x y : List UInt8} (h : ∀ i, i < 64 → x.getD i 0 = y.getD i 0) : block hs x = block hs y := by
  simp only [block, fill2_congr h]
theorem block_len (hs : List UInt32) (bs : List UInt8) : (block hs bs).length = hs.length := adds_len _ _ _
/-- q blocks, one behind the other -/
def runB (hs : List UInt32) (bs : List UInt8) : Nat → List UInt32
  | 0 => hs
  | q + 1 => block (runB hs bs q) (bs.drop (64 * q))
theorem runB_len (hs : List UInt32) (bs : List UInt8) : ∀ q, (runB hs bs q).length = hs.length
  | 0 => rfl
  | q + 1 => by rw [runB, block_len, runB_len hs bs q]
theorem getD_drop' {x : List UInt8} {a i : Nat} : (x.drop a).getD i 0 = x.getD (a + i) 0 := by simp [List.getD_eq_getElem?_getD]
theorem getD_app {x y : List UInt8} {i : Nat} (h : i < x.length) : (x ++ y).getD i 0 = x.getD i 0 := by
  simp [List.getD_eq_getElem?_getD, List.getElem?_append_left h]
theorem runB_append (hs : List UInt32) (x y : List UInt8) : ∀ q, 64 * q ≤ x.length → runB hs (x ++ y) q = runB hs x q
  | 0, _ => rfl
  | q + 1, hq => by
    rw [runB, runB, runB_append hs x y q (by omega)]
    refine block_congr fun i hi => ?_
    rw [getD_drop', getD_drop', getD_app (by omega)]
def H0 : List UInt32 := [1732584193, 4023233417, 2562383102, 271733878, 3285377520]
def zeros (n : Nat) : Nat := (119 - n % 64) % 64
def lenB (n : UInt64) (i : Nat) : List UInt8 := (List.range i).map fun i => (shr64 n (56 - 8 * i)).toUInt8
theorem lenB_succ (n : UInt64) (i : Nat) : lenB n (i + 1) = lenB n i ++ [(shr64 n (56 - 8 * i)).toUInt8] := by simp [lenB, List.range_succ]
theorem lenB_len (n : UInt64) (i : Nat) : (lenB n i).length = i := by simp [lenB]
def bitsN (t : List UInt8) : UInt64 := UInt64.ofNat t.length * 8
/-- padded -/
def padded (t : List UInt8) : List UInt8 := t ++ ([128] ++ (List.replicate (zeros t.length) 0 ++ lenB (bitsN t) 8))
theorem padded_len (t : List UInt8) : (padded t).length = t.length + 9 + zeros t.length := by simp [padded, lenB_len]; omega
theorem padded_mod (t : List UInt8) : (padded t).length % 64 = 0 := by rw [padded_len]; simp only [zeros]; omega
def outB (hs : List UInt32) (i : Nat) : UInt8 := (shr32 (hs.getD (i / 4) 0) (24 - 8 * (i % 4))).toUInt8
def outN (hs : List UInt32) : Nat → List UInt8
  | 0 => List.replicate 20 0
  | k + 1 => (outN hs k).set k (outB hs k)
theorem outN_len (hs : List UInt32) : ∀ k, (outN hs k).length = 20
  | 0 => by simp [outN]
  | k + 1 => by simp [outN, outN_len hs k]
def sha (t : List UInt8) : List UInt8 := outN (runB H0 (padded t) ((padded t).length / 64)) 20
theorem sha_len (t : List UInt8) : (sha t).length = 20 := outN_len _ _
end sha
end Go.Proofs.Ytomplpdeeomehaa
