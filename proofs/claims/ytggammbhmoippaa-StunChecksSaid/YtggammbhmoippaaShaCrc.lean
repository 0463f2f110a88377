/- The CRC, the program's and the document's. -/
import Derived.Test.YtggammbhmoippaaShaRef
import Derived.Test.YtggammbhmoippaaHAuto
namespace Go.Proofs.Ytggammbhmoippaa
set_option linter.unusedVariables false
set_option linter.unusedSimpArgs false
open Go.RowKit
namespace sha
namespace FxShaCrc
set_option maxRecDepth 100000
theorem sc5 : Program.isSc Try.prog 5 = true := by kernel_rfl
theorem sl27 : Program.slI Try.prog 27 = some 1 := by kernel_rfl
end FxShaCrc
open FxShaCrc
def cstep (c : UInt32) : UInt32 := shr32 c 1 ^^^ (-(c &&& 1) &&& 3988292384)
theorem cstep_eq (c : UInt32) : cstep c = shr32 c 1 ^^^ 3988292384 * (c &&& 1) := by
  have h : (c &&& 1) = 0 ∨ (c &&& 1) = 1 := by
    have := Nat.and_two_pow_sub_one_eq_mod c.toNat 1
    have h2 : (c &&& 1).toNat = c.toNat % 2 := by rw [UInt32.toNat_and]; exact this
    rcases Nat.mod_two_eq_zero_or_one c.toNat with h | h
    · left; apply UInt32.toNat_inj.1; rw [h2, h]; rfl
    · right; apply UInt32.toNat_inj.1; rw [h2, h]; rfl
  rw [cstep]
  rcases h with h | h <;> rw [h] <;> rfl
def iterC (c : UInt32) : Nat → UInt32
  | 0 => c
  | k + 1 => cstep (iterC c k)
def crcN (bs : List UInt8) : Nat → UInt32
  | 0 => 4294967295
  | k + 1 => iterC (crcN bs k ^^^ (bs.getD k 0).toUInt32) 8
def crc (bs : List UInt8) : UInt32 := ~~~(crcN bs bs.length)
set_option maxHeartbeats 1000000 in
theorem crc_fn (A : SA) (a : Option Addr) (n cap : Nat) (bs : List UInt8) (hA : Reads A 1 (.slice a n cap) n (bs.map v8)) (hn : bs.length = n) (L : List SA) :
    Fn Try.prog 51 [.slice a n cap] (A :: L) (fun v L' => v = v32 (crc bs) ∧ L' = A :: L) := by
  subst hn
  refine Fn.of (N := 31) Try.func51 rfl rfl ?_
  intro Xh
  refine TC.know (reads_cap hA inn) ?_
  rintro ⟨hmc, hcm, -, hnone⟩
  simp only [maxLen] at hcm
  refine TC.seq ?_
  refine TC.region ?_
  refine TL.val rfl rfl rfl (Y.assign rfl rfl) ?_
  refine TL.nil ?_
  refine TQ.next ?_
  refine TC.seq ?_
  refine TC.region ?_
  refine TL.val rfl rfl rfl (Y.assign rfl rfl) ?_
  refine TL.nil ?_
  refine TQ.next ?_
  refine TC.seq ?_
  refine TC.seq ?_
  refine TC.region ?_
  refine TL.val rfl rfl rfl (Y.move rfl rfl) ?_
  refine TL.val rfl rfl rfl (Y.len rfl Try.underlying27 rfl) ?_
  refine TL.val rfl rfl rfl (Y.move rfl rfl) ?_
  refine TL.nil ?_
  refine TQ.next ?_
  refine TC.block ?_
  refine TC.loopF (ι := Nat) [] (fun k => k ≤ bs.length) (fun k => [(9, some (vN k)), (3, some (v32 (crcN bs k)))]) (fun k => []) (fun k => bs.length - k) (0) (by omega) ⟨rfl, rfl, trivial⟩ Pulls.nil ?_
  rintro k hk F' L' rfl hL'
  simp only [List.cons_append, List.nil_append] at hL'
  subst hL'
  refine TC.seq ?_
  refine TC.region ?_
  refine TL.val rfl rfl rfl (Y.bin rfl rfl rfl (br_ltN)) ?_
  refine TL.nil ?_
  refine TQ.next ?_
  refine TC.seq ?_
  refine TC.cond rfl (fun c0 => ?_) (fun c0 => ?_)
  · try simp only [decide_eq_true_eq, decide_eq_false_iff_not, Bool.not_eq_true', Bool.not_eq_false', Bool.and_eq_true, Bool.or_eq_true, Nat.not_lt, Nat.not_le, beq_iff_eq, bne_iff_ne] at c0
    obtain ⟨p, rfl⟩ : ∃ p, a = some p := by cases a with | none => (have := hnone rfl; omega) | some p => exact ⟨p, rfl⟩
    refine TC.skip ?_
    refine TQ.next ?_
    refine TC.seq ?_
    refine TC.block ?_
    refine TC.seq ?_
    refine TC.region ?_
    refine TL.val rfl rfl rfl (by first | exact Y.indexSlB rfl sl27 rfl rfl (by omega) nqq | exact Y.indexSl rfl sl27 rfl rfl (by omega) nqq) ?_
    refine TL.val rfl rfl rfl (Y.load rfl sc5 rfl ceo8) ?_
    refine TL.val rfl rfl rfl (Y.assign rfl rfl) ?_
    refine TL.nil ?_
    refine TQ.next ?_
    refine TC.seq ?_
    refine TC.region ?_
    refine TL.val rfl rfl rfl (Y.move rfl rfl) ?_
    refine TL.val rfl rfl rfl (Y.move rfl rfl) ?_
    refine TL.val rfl rfl rfl (Y.conv rfl Try.underlying5 Try.underlying45 rfl (cv_8_32)) ?_
    refine TL.val rfl rfl rfl (Y.bin rfl rfl rfl (br_xor32)) ?_
    refine TL.val rfl rfl rfl (Y.assign rfl rfl) ?_
    refine TL.nil ?_
    refine TQ.next ?_
    refine TC.seq ?_
    refine TC.region ?_
    refine TL.val rfl rfl rfl (Y.move rfl rfl) ?_
    refine TL.nil ?_
    refine TQ.next ?_
    refine TC.block ?_
    refine TC.loopF (ι := Nat) [] (fun j => j ≤ 8) (fun j => [(17, some (vN j)), (3, some (v32 (iterC (crcN bs k ^^^ (bs.getD k 0).toUInt32) j)))]) (fun j => []) (fun j => 8 - j) (0) (by omega) ⟨rfl, rfl, trivial⟩ Pulls.nil ?_
    rintro j hj F' L' rfl hL'
    simp only [List.cons_append, List.nil_append] at hL'
    subst hL'
    refine TC.seq ?_
    refine TC.region ?_
    refine TL.val rfl rfl rfl (Y.bin rfl rfl rfl (br_ltN (n := 8))) ?_
    refine TL.nil ?_
    refine TQ.next ?_
    refine TC.seq ?_
    refine TC.cond rfl (fun c1 => ?_) (fun c1 => ?_)
    · try simp only [decide_eq_true_eq, decide_eq_false_iff_not, Bool.not_eq_true', Bool.not_eq_false', Bool.and_eq_true, Bool.or_eq_true, Nat.not_lt, Nat.not_le, beq_iff_eq, bne_iff_ne] at c1
      refine TC.skip ?_
      refine TQ.next ?_
      refine TC.seq ?_
      refine TC.block ?_
      refine TC.seq ?_
      refine TC.region ?_
      refine TL.val rfl rfl rfl (Y.move rfl rfl) ?_
      refine TL.val rfl rfl rfl (Y.bin rfl rfl rfl (br_and32 (y := 1))) ?_
      refine TL.val rfl rfl rfl (Y.assign rfl rfl) ?_
      refine TL.nil ?_
      refine TQ.next ?_
      refine TC.region ?_
      refine TL.val rfl rfl rfl (Y.move rfl rfl) ?_
      refine TL.val rfl rfl rfl (Y.bin rfl rfl rfl (br_shr32 (n := 1))) ?_
      refine TL.val rfl rfl rfl (Y.move rfl rfl) ?_
      refine TL.val rfl rfl rfl (Y.neg32 rfl rfl) ?_
      refine TL.val rfl rfl rfl (Y.bin rfl rfl rfl (br_and32 (y := 3988292384))) ?_
      refine TL.val rfl rfl rfl (Y.bin rfl rfl rfl (br_xor32)) ?_
      refine TL.val rfl rfl rfl (Y.assign rfl rfl) ?_
      refine TL.nil ?_
      refine TQ.block_normal ?_
      refine TQ.next ?_
      refine TC.region ?_
      refine TL.val rfl rfl rfl (Y.bin rfl rfl rfl (br_addN (n := 1) (by omega))) ?_
      refine TL.val rfl rfl rfl (Y.move rfl rfl) ?_
      refine TL.nil ?_
      refine TQ.loopF (j + 1) (by omega) (by omega) ⟨rfl, rfl, trivial⟩ (by (repeat first | apply Grow.refl | apply Grow.step | apply Grow.app)) ?_ ?_ ?_
      · kernel_rfl
      · rfl
      · simp only [List.cons_append, List.nil_append]
        exact ett
    · try simp only [decide_eq_true_eq, decide_eq_false_iff_not, Bool.not_eq_true', Bool.not_eq_false', Bool.and_eq_true, Bool.or_eq_true, Nat.not_lt, Nat.not_le, beq_iff_eq, bne_iff_ne] at c1
      refine TC.exit ?_
      refine TQ.then_exit ?_
      refine TQ.then_exit ?_
      refine TQ.block_exit ?_
      refine TQ.block_normal ?_
      refine TQ.next ?_
      refine TC.region ?_
      refine TL.val rfl rfl rfl (Y.bin rfl rfl rfl (br_addN (n := 1) (by omega))) ?_
      refine TL.val rfl rfl rfl (Y.move rfl rfl) ?_
      refine TL.nil ?_
      obtain rfl : j = 8 := by omega
      refine TQ.loopF (k + 1) (by omega) (by omega) ⟨rfl, rfl, trivial⟩ (by (repeat first | apply Grow.refl | apply Grow.step | apply Grow.app)) ?_ ?_ ?_
      · kernel_rfl
      · rfl
      · simp only [List.cons_append, List.nil_append]
        exact ett
  · try simp only [decide_eq_true_eq, decide_eq_false_iff_not, Bool.not_eq_true', Bool.not_eq_false', Bool.and_eq_true, Bool.or_eq_true, Nat.not_lt, Nat.not_le, beq_iff_eq, bne_iff_ne] at c0
    refine TC.exit ?_
    refine TQ.then_exit ?_
    refine TQ.then_exit ?_
    refine TQ.block_exit ?_
    refine TQ.next ?_
    refine TC.seq ?_
    obtain rfl : k = bs.length := by omega
    refine TC.region ?_
    refine TL.val rfl rfl rfl (Y.move rfl rfl) ?_
    refine TL.val rfl rfl rfl (Y.xor32 rfl rfl) ?_
    refine TL.val rfl rfl rfl (Y.assign rfl rfl) ?_
    refine TL.nil ?_
    refine TQ.next ?_
    refine TC.ret ?_
    refine TQ.retE (res1 rfl rfl) (⟨rfl, rfl⟩) ?_
    exact ett
set_option maxHeartbeats 1000000 in
theorem refCrc_fn (A : SA) (a : Option Addr) (n cap : Nat) (bs : List UInt8) (hA : Reads A 1 (.slice a n cap) n (bs.map v8)) (hn : bs.length = n) (L : List SA) :
    Fn Try.prog 47 [.slice a n cap] (A :: L) (fun v L' => v = v32 (crc bs) ∧ L' = A :: L) := by
  subst hn
  refine Fn.of (N := 29) Try.func47 rfl rfl ?_
  intro Xh
  refine TC.know (reads_cap hA inn) ?_
  rintro ⟨hmc, hcm, -, hnone⟩
  simp only [maxLen] at hcm
  refine TC.seq ?_
  refine TC.region ?_
  refine TL.val rfl rfl rfl (Y.assign rfl rfl) ?_
  refine TL.nil ?_
  refine TQ.next ?_
  refine TC.seq ?_
  refine TC.region ?_
  refine TL.val rfl rfl rfl (Y.assign rfl rfl) ?_
  refine TL.nil ?_
  refine TQ.next ?_
  refine TC.seq ?_
  refine TC.seq ?_
  refine TC.region ?_
  refine TL.val rfl rfl rfl (Y.move rfl rfl) ?_
  refine TL.val rfl rfl rfl (Y.len rfl Try.underlying27 rfl) ?_
  refine TL.val rfl rfl rfl (Y.move rfl rfl) ?_
  refine TL.nil ?_
  refine TQ.next ?_
  refine TC.block ?_
  refine TC.loopF (ι := Nat) [] (fun k => k ≤ bs.length) (fun k => [(7, some (vN k)), (3, some (v32 (crcN bs k)))]) (fun k => []) (fun k => bs.length - k) (0) (by omega) ⟨rfl, rfl, trivial⟩ Pulls.nil ?_
  rintro k hk F' L' rfl hL'
  simp only [List.cons_append, List.nil_append] at hL'
  subst hL'
  refine TC.seq ?_
  refine TC.region ?_
  refine TL.val rfl rfl rfl (Y.bin rfl rfl rfl (br_ltN)) ?_
  refine TL.nil ?_
  refine TQ.next ?_
  refine TC.seq ?_
  refine TC.cond rfl (fun c0 => ?_) (fun c0 => ?_)
  · try simp only [decide_eq_true_eq, decide_eq_false_iff_not, Bool.not_eq_true', Bool.not_eq_false', Bool.and_eq_true, Bool.or_eq_true, Nat.not_lt, Nat.not_le, beq_iff_eq, bne_iff_ne] at c0
    obtain ⟨p, rfl⟩ : ∃ p, a = some p := by cases a with | none => (have := hnone rfl; omega) | some p => exact ⟨p, rfl⟩
    refine TC.skip ?_
    refine TQ.next ?_
    refine TC.seq ?_
    refine TC.block ?_
    refine TC.seq ?_
    refine TC.region ?_
    refine TL.val rfl rfl rfl (Y.move rfl rfl) ?_
    refine TL.val rfl rfl rfl (Y.assign rfl rfl) ?_
    refine TL.nil ?_
    refine TQ.next ?_
    refine TC.seq ?_
    refine TC.region ?_
    refine TL.val rfl rfl rfl (Y.move rfl rfl) ?_
    refine TL.val rfl rfl rfl (Y.move rfl rfl) ?_
    refine TL.val rfl rfl rfl (Y.move rfl rfl) ?_
    refine TL.val rfl rfl rfl (by first | exact Y.indexSlB rfl sl27 rfl rfl (by omega) nqq | exact Y.indexSl rfl sl27 rfl rfl (by omega) nqq) ?_
    refine TL.val rfl rfl rfl (Y.load rfl sc5 rfl ceo8) ?_
    refine TL.val rfl rfl rfl (Y.conv rfl Try.underlying5 Try.underlying45 rfl (cv_8_32)) ?_
    refine TL.val rfl rfl rfl (Y.bin rfl rfl rfl (br_xor32)) ?_
    refine TL.val rfl rfl rfl (Y.assign rfl rfl) ?_
    refine TL.nil ?_
    refine TQ.next ?_
    refine TC.seq ?_
    refine TC.region ?_
    refine TL.val rfl rfl rfl (Y.move rfl rfl) ?_
    refine TL.nil ?_
    refine TQ.next ?_
    refine TC.block ?_
    refine TC.loopF (ι := Nat) [] (fun j => j ≤ 8) (fun j => [(17, some (vN j)), (3, some (v32 (iterC (crcN bs k ^^^ (bs.getD k 0).toUInt32) j)))]) (fun j => []) (fun j => 8 - j) (0) (by omega) ⟨rfl, rfl, trivial⟩ Pulls.nil ?_
    rintro j hj F' L' rfl hL'
    simp only [List.cons_append, List.nil_append] at hL'
    subst hL'
    refine TC.seq ?_
    refine TC.region ?_
    refine TL.val rfl rfl rfl (Y.bin rfl rfl rfl (br_ltN (n := 8))) ?_
    refine TL.nil ?_
    refine TQ.next ?_
    refine TC.seq ?_
    refine TC.cond rfl (fun c1 => ?_) (fun c1 => ?_)
    · try simp only [decide_eq_true_eq, decide_eq_false_iff_not, Bool.not_eq_true', Bool.not_eq_false', Bool.and_eq_true, Bool.or_eq_true, Nat.not_lt, Nat.not_le, beq_iff_eq, bne_iff_ne] at c1
      refine TC.skip ?_
      refine TQ.next ?_
      refine TC.seq ?_
      refine TC.block ?_
      refine TC.region ?_
      refine TL.val rfl rfl rfl (Y.move rfl rfl) ?_
      refine TL.val rfl rfl rfl (Y.bin rfl rfl rfl (br_shr32 (n := 1))) ?_
      refine TL.val rfl rfl rfl (Y.move rfl rfl) ?_
      refine TL.val rfl rfl rfl (Y.bin rfl rfl rfl (br_and32 (y := 1))) ?_
      refine TL.val rfl rfl rfl (Y.bin rfl rfl rfl (br_mul32 (x := 3988292384))) ?_
      refine TL.val rfl rfl rfl (Y.bin rfl rfl rfl (br_xor32)) ?_
      refine TL.val rfl rfl rfl (Y.assign rfl rfl) ?_
      refine TL.nil ?_
      refine TQ.block_normal ?_
      refine TQ.next ?_
      refine TC.region ?_
      refine TL.val rfl rfl rfl (Y.bin rfl rfl rfl (br_addN (n := 1) (by omega))) ?_
      refine TL.val rfl rfl rfl (Y.move rfl rfl) ?_
      refine TL.nil ?_
      rw [← cstep_eq]
      refine TQ.loopF (j + 1) (by omega) (by omega) ⟨rfl, rfl, trivial⟩ (by (repeat first | apply Grow.refl | apply Grow.step | apply Grow.app)) ?_ ?_ ?_
      · kernel_rfl
      · rfl
      · simp only [List.cons_append, List.nil_append]
        exact ett
    · try simp only [decide_eq_true_eq, decide_eq_false_iff_not, Bool.not_eq_true', Bool.not_eq_false', Bool.and_eq_true, Bool.or_eq_true, Nat.not_lt, Nat.not_le, beq_iff_eq, bne_iff_ne] at c1
      refine TC.exit ?_
      refine TQ.then_exit ?_
      refine TQ.then_exit ?_
      refine TQ.block_exit ?_
      refine TQ.block_normal ?_
      refine TQ.next ?_
      refine TC.region ?_
      refine TL.val rfl rfl rfl (Y.bin rfl rfl rfl (br_addN (n := 1) (by omega))) ?_
      refine TL.val rfl rfl rfl (Y.move rfl rfl) ?_
      refine TL.nil ?_
      obtain rfl : j = 8 := by omega
      refine TQ.loopF (k + 1) (by omega) (by omega) ⟨rfl, rfl, trivial⟩ (by (repeat first | apply Grow.refl | apply Grow.step | apply Grow.app)) ?_ ?_ ?_
      · kernel_rfl
      · rfl
      · simp only [List.cons_append, List.nil_append]
        exact ett
  · try simp only [decide_eq_true_eq, decide_eq_false_iff_not, Bool.not_eq_true', Bool.not_eq_false', Bool.and_eq_true, Bool.or_eq_true, Nat.not_lt, Nat.not_le, beq_iff_eq, bne_iff_ne] at c0
    refine TC.exit ?_
    refine TQ.then_exit ?_
    refine TQ.then_exit ?_
    refine TQ.block_exit ?_
    refine TQ.next ?_
    refine TC.seq ?_
    obtain rfl : k = bs.length := by omega
    refine TC.region ?_
    refine TL.val rfl rfl rfl (Y.move rfl rfl) ?_
    refine TL.val rfl rfl rfl (Y.xor32 rfl rfl) ?_
    refine TL.val rfl rfl rfl (Y.assign rfl rfl) ?_
    refine TL.nil ?_
    refine TQ.next ?_
    refine TC.ret ?_
    refine TQ.retE (res1 rfl rfl) (⟨rfl, rfl⟩) ?_
    exact ett
end sha
end Go.Proofs.Ytggammbhmoippaa
