/- The logic and the walks, in one text with others: part 6 of 6. -/
import Derived.Test.YtpmplnkempcmjaaPk5
/- ice.First, the program's and the document's, walked. -/
namespace Go.Proofs.Ytpmplnkempcmjaa
set_option linter.unusedVariables false
set_option linter.unusedSimpArgs false
open Go.RowKit
namespace ice
namespace FxIceFi
set_option maxRecDepth 100000
theorem sc5 : Program.isSc Try.prog 5 = true := by kernel_rfl
theorem sl30 : Program.slI Try.prog 30 = some 1 := by kernel_rfl
end FxIceFi
open FxIceFi
/-- what a datagram is -/
def frst (b : List UInt8) : Nat :=
  if b.length = 0 then 0 else if (b.getD 0 0).toNat < 4 then 1 else if 20 ≤ (b.getD 0 0).toNat ∧ (b.getD 0 0).toNat < 64 then 2
  else if 128 ≤ (b.getD 0 0).toNat ∧ (b.getD 0 0).toNat ≤ 191 then (if 1 < b.length ∧ 192 ≤ (b.getD 1 0).toNat ∧ (b.getD 1 0).toNat ≤ 223 then 4 else 3) else 0
theorem and192 (c : UInt8) : (c &&& 192 = 128) = (128 ≤ c.toNat ∧ c.toNat ≤ 191) := by
  have h : ∀ c : Fin 256, (UInt8.ofNat c.val &&& 192 = 128) ↔ (128 ≤ c.val ∧ c.val ≤ 191) := by decide +kernel
  have := h ⟨c.toNat, c.toNat_lt⟩
  simp only [UInt8.ofNat_toNat] at this
  exact propext this
theorem and224 (c : UInt8) : (c &&& 224 = 192) = (192 ≤ c.toNat ∧ c.toNat ≤ 223) := by
  have h : ∀ c : Fin 256, (UInt8.ofNat c.val &&& 224 = 192) ↔ (192 ≤ c.val ∧ c.val ≤ 223) := by decide +kernel
  have := h ⟨c.toNat, c.toNat_lt⟩
  simp only [UInt8.ofNat_toNat] at this
  exact propext this
--REG rostrum/ice.First : _ _ ⟨rfl, rfl⟩ => (ice.First_fn _ _ _ _ (by first | assumption | rfl) _)
theorem First_fn (a : Option Addr) (n cap : Nat) (b : List UInt8) (hn : b.length = n) (L : List SA) :
    Fn Try.prog 15 [.slice a n cap] (SA.rds 1 (.slice a n cap) n (b.map v8) :: L) (fun v L' => v = vN (frst b) ∧ L' = SA.rds 1 (.slice a n cap) n (b.map v8) :: L) := by
  refine Fn.of (N := 34) Try.func15 rfl rfl ?_
  intro Xh
  refine TC.seq ?_
  refine TC.region ?_
  refine TL.val rfl rfl rfl (Y.assign rfl rfl) ?_
  refine TL.nil ?_
  refine TQ.next ?_
  refine TC.seq ?_
  refine TC.seq ?_
  refine TC.region ?_
  refine TL.val rfl rfl rfl (Y.move rfl rfl) ?_
  refine TL.val rfl rfl rfl (Y.len rfl Try.underlying30 rfl) ?_
  refine TL.val rfl rfl rfl (Y.bin rfl rfl rfl (br_eqN (n := 0))) ?_
  refine TL.nil ?_
  refine TQ.next ?_
  refine TC.cond rfl (fun c0 => ?_) (fun c0 => ?_)
  · try simp only [decide_eq_true_eq, decide_eq_false_iff_not, Bool.not_eq_true', Bool.not_eq_false', Nat.not_lt, Nat.not_le, beq_iff_eq, beq_eq_false_iff_ne, ne_eq, and192, and224] at c0
    refine TC.seq ?_
    refine TC.region ?_
    refine TL.val rfl rfl rfl (Y.assign rfl rfl) ?_
    refine TL.nil ?_
    refine TQ.next ?_
    refine TC.ret ?_
    refine TQ.then_ret ?_
    refine TQ.retE (res1 rfl rfl) (⟨by unfold frst; (repeat' split) <;> first | rfl | (exfalso; omega), rfl⟩) ?_
    exact ett
  · try simp only [decide_eq_true_eq, decide_eq_false_iff_not, Bool.not_eq_true', Bool.not_eq_false', Nat.not_lt, Nat.not_le, beq_iff_eq, beq_eq_false_iff_ne, ne_eq, and192, and224] at c0
    refine TC.know (reads_some (a := a) (A := SA.rds 1 (.slice a n cap) n (b.map v8)) Reads.rds inn (by omega) (by decide)) ?_
    rintro ⟨g, off, rfl⟩
    refine TC.skip ?_
    refine TQ.next ?_
    refine TC.seq ?_
    refine TC.seq ?_
    refine TC.region ?_
    refine TL.val rfl rfl rfl (Y.move rfl rfl) ?_
    refine TL.val rfl rfl rfl (by first | exact Y.indexSlB (j := 0) rfl sl30 rfl rfl (by omega) nqq | exact Y.indexSl (j := 0) rfl sl30 rfl rfl (by omega) nqq) ?_
    refine TL.val rfl rfl rfl (Y.load rfl sc5 rfl cel8) ?_
    refine TL.val rfl rfl rfl (Y.assign rfl rfl) ?_
    refine TL.nil ?_
    refine TQ.next ?_
    refine TC.block ?_
    refine TC.seq ?_
    refine TC.region ?_
    refine TL.val rfl rfl rfl (Y.move rfl rfl) ?_
    refine TL.val rfl rfl rfl (Y.bin rfl rfl rfl (br_ltN (n := 4))) ?_
    refine TL.val rfl rfl rfl (Y.assign rfl rfl) ?_
    refine TL.nil ?_
    refine TQ.next ?_
    refine TC.cond rfl (fun c1 => ?_) (fun c1 => ?_)
    · try simp only [decide_eq_true_eq, decide_eq_false_iff_not, Bool.not_eq_true', Bool.not_eq_false', Nat.not_lt, Nat.not_le, beq_iff_eq, beq_eq_false_iff_ne, ne_eq, and192, and224] at c1
      refine TC.seq ?_
      refine TC.region ?_
      refine TL.val rfl rfl rfl (Y.assign rfl rfl) ?_
      refine TL.nil ?_
      refine TQ.next ?_
      refine TC.ret ?_
      refine TQ.block_ret ?_
      refine TQ.then_ret ?_
      refine TQ.retE (res1 rfl rfl) (⟨by unfold frst; (repeat' split) <;> first | rfl | (exfalso; omega), rfl⟩) ?_
      exact ett
    · try simp only [decide_eq_true_eq, decide_eq_false_iff_not, Bool.not_eq_true', Bool.not_eq_false', Nat.not_lt, Nat.not_le, beq_iff_eq, beq_eq_false_iff_ne, ne_eq, and192, and224] at c1
      refine TC.seq ?_
      refine TC.region ?_
      refine TL.val rfl rfl rfl (Y.move rfl rfl) ?_
      refine TL.val rfl rfl rfl (Y.bin rfl rfl rfl (br_geN (n := 20))) ?_
      refine TL.val rfl rfl rfl (Y.move rfl rfl) ?_
      refine TL.case (fun g6_2 => ?_) (fun g6_2 => ?_)
      · try simp only [decide_eq_true_eq, decide_eq_false_iff_not, Bool.not_eq_true', Bool.not_eq_false', Nat.not_lt, Nat.not_le, beq_iff_eq, bne_iff_ne] at g6_2
        refine TL.valG rfl rfl rfl (Y.move rfl rfl) ?_
        refine TL.valG rfl rfl rfl (Y.bin rfl rfl rfl (br_ltN (n := 64))) ?_
        refine TL.val rfl rfl rfl (Y.pick_t rfl rfl rfl) ?_
        refine TL.val rfl rfl rfl (Y.assign rfl rfl) ?_
        refine TL.nil ?_
        refine TQ.next ?_
        refine TC.cond rfl (fun c2 => ?_) (fun c2 => ?_)
        · try simp only [decide_eq_true_eq, decide_eq_false_iff_not, Bool.not_eq_true', Bool.not_eq_false', Nat.not_lt, Nat.not_le, beq_iff_eq, beq_eq_false_iff_ne, ne_eq, and192, and224] at c2
          refine TC.seq ?_
          refine TC.region ?_
          refine TL.val rfl rfl rfl (Y.assign rfl rfl) ?_
          refine TL.nil ?_
          refine TQ.next ?_
          refine TC.ret ?_
          refine TQ.block_ret ?_
          refine TQ.then_ret ?_
          refine TQ.retE (res1 rfl rfl) (⟨by unfold frst; (repeat' split) <;> first | rfl | (exfalso; omega), rfl⟩) ?_
          exact ett
        · try simp only [decide_eq_true_eq, decide_eq_false_iff_not, Bool.not_eq_true', Bool.not_eq_false', Nat.not_lt, Nat.not_le, beq_iff_eq, beq_eq_false_iff_ne, ne_eq, and192, and224] at c2
          refine TC.seq ?_
          refine TC.region ?_
          refine TL.val rfl rfl rfl (Y.move rfl rfl) ?_
          refine TL.val rfl rfl rfl (Y.bin rfl rfl rfl (br_and8 (y := 192))) ?_
          refine TL.val rfl rfl rfl (Y.bin rfl rfl rfl (br_eq8 (y := 128))) ?_
          refine TL.val rfl rfl rfl (Y.assign rfl rfl) ?_
          refine TL.nil ?_
          refine TQ.next ?_
          refine TC.cond rfl (fun c3 => ?_) (fun c3 => ?_)
          · try simp only [decide_eq_true_eq, decide_eq_false_iff_not, Bool.not_eq_true', Bool.not_eq_false', Nat.not_lt, Nat.not_le, beq_iff_eq, beq_eq_false_iff_ne, ne_eq, and192, and224] at c3
            refine TC.seq ?_
            refine TC.seq ?_
            refine TC.region ?_
            refine TL.val rfl rfl rfl (Y.move rfl rfl) ?_
            refine TL.val rfl rfl rfl (Y.len rfl Try.underlying30 rfl) ?_
            refine TL.val rfl rfl rfl (Y.bin rfl rfl rfl (br_gtN (n := 1))) ?_
            refine TL.val rfl rfl rfl (Y.move rfl rfl) ?_
            refine TL.case (fun g9_3 => ?_) (fun g9_3 => ?_)
            · try simp only [decide_eq_true_eq, decide_eq_false_iff_not, Bool.not_eq_true', Bool.not_eq_false', Nat.not_lt, Nat.not_le, beq_iff_eq, bne_iff_ne] at g9_3
              refine TL.valG rfl rfl rfl (Y.move rfl rfl) ?_
              refine TL.valG rfl rfl rfl (by first | exact Y.indexSlB (j := 1) rfl sl30 rfl rfl (by omega) nqq | exact Y.indexSl (j := 1) rfl sl30 rfl rfl (by omega) nqq) ?_
              refine TL.valG rfl rfl rfl (Y.load rfl sc5 rfl cel8) ?_
              refine TL.valG rfl rfl rfl (Y.bin rfl rfl rfl (br_and8 (y := 224))) ?_
              refine TL.valG rfl rfl rfl (Y.bin rfl rfl rfl (br_eq8 (y := 192))) ?_
              refine TL.val rfl rfl rfl (Y.pick_t rfl rfl rfl) ?_
              refine TL.nil ?_
              refine TQ.next ?_
              refine TC.cond rfl (fun c4 => ?_) (fun c4 => ?_)
              · try simp only [decide_eq_true_eq, decide_eq_false_iff_not, Bool.not_eq_true', Bool.not_eq_false', Nat.not_lt, Nat.not_le, beq_iff_eq, beq_eq_false_iff_ne, ne_eq, and192, and224] at c4
                refine TC.seq ?_
                refine TC.region ?_
                refine TL.val rfl rfl rfl (Y.assign rfl rfl) ?_
                refine TL.nil ?_
                refine TQ.next ?_
                refine TC.ret ?_
                refine TQ.then_ret ?_
                refine TQ.block_ret ?_
                refine TQ.then_ret ?_
                refine TQ.retE (res1 rfl rfl) (⟨by unfold frst; (repeat' split) <;> first | rfl | (exfalso; omega), rfl⟩) ?_
                exact ett
              · try simp only [decide_eq_true_eq, decide_eq_false_iff_not, Bool.not_eq_true', Bool.not_eq_false', Nat.not_lt, Nat.not_le, beq_iff_eq, beq_eq_false_iff_ne, ne_eq, and192, and224] at c4
                refine TC.skip ?_
                refine TQ.next ?_
                refine TC.seq ?_
                refine TC.region ?_
                refine TL.val rfl rfl rfl (Y.assign rfl rfl) ?_
                refine TL.nil ?_
                refine TQ.next ?_
                refine TC.ret ?_
                refine TQ.block_ret ?_
                refine TQ.then_ret ?_
                refine TQ.retE (res1 rfl rfl) (⟨by unfold frst; (repeat' split) <;> first | rfl | (exfalso; omega), rfl⟩) ?_
                exact ett
            · try simp only [decide_eq_true_eq, decide_eq_false_iff_not, Bool.not_eq_true', Bool.not_eq_false', Nat.not_lt, Nat.not_le, beq_iff_eq, bne_iff_ne] at g9_3
              refine TL.not rfl rfl rfl ?_
              refine TL.not rfl rfl rfl ?_
              refine TL.not rfl rfl rfl ?_
              refine TL.not rfl rfl rfl ?_
              refine TL.not rfl rfl rfl ?_
              refine TL.val rfl rfl rfl (Y.pick_f rfl rfl rfl) ?_
              refine TL.nil ?_
              refine TQ.next ?_
              refine TC.cond_f rfl ?_
              refine TC.skip ?_
              refine TQ.next ?_
              refine TC.seq ?_
              refine TC.region ?_
              refine TL.val rfl rfl rfl (Y.assign rfl rfl) ?_
              refine TL.nil ?_
              refine TQ.next ?_
              refine TC.ret ?_
              refine TQ.block_ret ?_
              refine TQ.then_ret ?_
              refine TQ.retE (res1 rfl rfl) (⟨by unfold frst; (repeat' split) <;> first | rfl | (exfalso; omega), rfl⟩) ?_
              exact ett
          · try simp only [decide_eq_true_eq, decide_eq_false_iff_not, Bool.not_eq_true', Bool.not_eq_false', Nat.not_lt, Nat.not_le, beq_iff_eq, beq_eq_false_iff_ne, ne_eq, and192, and224] at c3
            refine TC.skip ?_
            refine TQ.block_normal ?_
            refine TQ.next ?_
            refine TC.seq ?_
            refine TC.region ?_
            refine TL.val rfl rfl rfl (Y.assign rfl rfl) ?_
            refine TL.nil ?_
            refine TQ.next ?_
            refine TC.ret ?_
            refine TQ.retE (res1 rfl rfl) (⟨by unfold frst; (repeat' split) <;> first | rfl | (exfalso; omega), rfl⟩) ?_
            exact ett
      · try simp only [decide_eq_true_eq, decide_eq_false_iff_not, Bool.not_eq_true', Bool.not_eq_false', Nat.not_lt, Nat.not_le, beq_iff_eq, bne_iff_ne] at g6_2
        refine TL.not rfl rfl rfl ?_
        refine TL.not rfl rfl rfl ?_
        refine TL.val rfl rfl rfl (Y.pick_f rfl rfl rfl) ?_
        refine TL.val rfl rfl rfl (Y.assign rfl rfl) ?_
        refine TL.nil ?_
        refine TQ.next ?_
        refine TC.cond_f rfl ?_
        refine TC.seq ?_
        refine TC.region ?_
        refine TL.val rfl rfl rfl (Y.move rfl rfl) ?_
        refine TL.val rfl rfl rfl (Y.bin rfl rfl rfl (br_and8 (y := 192))) ?_
        refine TL.val rfl rfl rfl (Y.bin rfl rfl rfl (br_eq8 (y := 128))) ?_
        refine TL.val rfl rfl rfl (Y.assign rfl rfl) ?_
        refine TL.nil ?_
        refine TQ.next ?_
        refine TC.cond rfl (fun c3 => ?_) (fun c3 => ?_)
        · try simp only [decide_eq_true_eq, decide_eq_false_iff_not, Bool.not_eq_true', Bool.not_eq_false', Nat.not_lt, Nat.not_le, beq_iff_eq, beq_eq_false_iff_ne, ne_eq, and192, and224] at c3
          refine TC.seq ?_
          refine TC.seq ?_
          refine TC.region ?_
          refine TL.val rfl rfl rfl (Y.move rfl rfl) ?_
          refine TL.val rfl rfl rfl (Y.len rfl Try.underlying30 rfl) ?_
          refine TL.val rfl rfl rfl (Y.bin rfl rfl rfl (br_gtN (n := 1))) ?_
          refine TL.val rfl rfl rfl (Y.move rfl rfl) ?_
          refine TL.case (fun g9_3 => ?_) (fun g9_3 => ?_)
          · try simp only [decide_eq_true_eq, decide_eq_false_iff_not, Bool.not_eq_true', Bool.not_eq_false', Nat.not_lt, Nat.not_le, beq_iff_eq, bne_iff_ne] at g9_3
            refine TL.valG rfl rfl rfl (Y.move rfl rfl) ?_
            refine TL.valG rfl rfl rfl (by first | exact Y.indexSlB (j := 1) rfl sl30 rfl rfl (by omega) nqq | exact Y.indexSl (j := 1) rfl sl30 rfl rfl (by omega) nqq) ?_
            refine TL.valG rfl rfl rfl (Y.load rfl sc5 rfl cel8) ?_
            refine TL.valG rfl rfl rfl (Y.bin rfl rfl rfl (br_and8 (y := 224))) ?_
            refine TL.valG rfl rfl rfl (Y.bin rfl rfl rfl (br_eq8 (y := 192))) ?_
            refine TL.val rfl rfl rfl (Y.pick_t rfl rfl rfl) ?_
            refine TL.nil ?_
            refine TQ.next ?_
            refine TC.cond rfl (fun c4 => ?_) (fun c4 => ?_)
            · try simp only [decide_eq_true_eq, decide_eq_false_iff_not, Bool.not_eq_true', Bool.not_eq_false', Nat.not_lt, Nat.not_le, beq_iff_eq, beq_eq_false_iff_ne, ne_eq, and192, and224] at c4
              refine TC.seq ?_
              refine TC.region ?_
              refine TL.val rfl rfl rfl (Y.assign rfl rfl) ?_
              refine TL.nil ?_
              refine TQ.next ?_
              refine TC.ret ?_
              refine TQ.then_ret ?_
              refine TQ.block_ret ?_
              refine TQ.then_ret ?_
              refine TQ.retE (res1 rfl rfl) (⟨by unfold frst; (repeat' split) <;> first | rfl | (exfalso; omega), rfl⟩) ?_
              exact ett
            · try simp only [decide_eq_true_eq, decide_eq_false_iff_not, Bool.not_eq_true', Bool.not_eq_false', Nat.not_lt, Nat.not_le, beq_iff_eq, beq_eq_false_iff_ne, ne_eq, and192, and224] at c4
              refine TC.skip ?_
              refine TQ.next ?_
              refine TC.seq ?_
              refine TC.region ?_
              refine TL.val rfl rfl rfl (Y.assign rfl rfl) ?_
              refine TL.nil ?_
              refine TQ.next ?_
              refine TC.ret ?_
              refine TQ.block_ret ?_
              refine TQ.then_ret ?_
              refine TQ.retE (res1 rfl rfl) (⟨by unfold frst; (repeat' split) <;> first | rfl | (exfalso; omega), rfl⟩) ?_
              exact ett
          · try simp only [decide_eq_true_eq, decide_eq_false_iff_not, Bool.not_eq_true', Bool.not_eq_false', Nat.not_lt, Nat.not_le, beq_iff_eq, bne_iff_ne] at g9_3
            refine TL.not rfl rfl rfl ?_
            refine TL.not rfl rfl rfl ?_
            refine TL.not rfl rfl rfl ?_
            refine TL.not rfl rfl rfl ?_
            refine TL.not rfl rfl rfl ?_
            refine TL.val rfl rfl rfl (Y.pick_f rfl rfl rfl) ?_
            refine TL.nil ?_
            refine TQ.next ?_
            refine TC.cond_f rfl ?_
            refine TC.skip ?_
            refine TQ.next ?_
            refine TC.seq ?_
            refine TC.region ?_
            refine TL.val rfl rfl rfl (Y.assign rfl rfl) ?_
            refine TL.nil ?_
            refine TQ.next ?_
            refine TC.ret ?_
            refine TQ.block_ret ?_
            refine TQ.then_ret ?_
            refine TQ.retE (res1 rfl rfl) (⟨by unfold frst; (repeat' split) <;> first | rfl | (exfalso; omega), rfl⟩) ?_
            exact ett
        · try simp only [decide_eq_true_eq, decide_eq_false_iff_not, Bool.not_eq_true', Bool.not_eq_false', Nat.not_lt, Nat.not_le, beq_iff_eq, beq_eq_false_iff_ne, ne_eq, and192, and224] at c3
          refine TC.skip ?_
          refine TQ.block_normal ?_
          refine TQ.next ?_
          refine TC.seq ?_
          refine TC.region ?_
          refine TL.val rfl rfl rfl (Y.assign rfl rfl) ?_
          refine TL.nil ?_
          refine TQ.next ?_
          refine TC.ret ?_
          refine TQ.retE (res1 rfl rfl) (⟨by unfold frst; (repeat' split) <;> first | rfl | (exfalso; omega), rfl⟩) ?_
          exact ett
--REG rostrum/rostrumref05.First : _ _ ⟨rfl, rfl⟩ => (ice.refFirst_fn _ _ _ _ (by first | assumption | rfl) _)
theorem refFirst_fn (a : Option Addr) (n cap : Nat) (b : List UInt8) (hn : b.length = n) (L : List SA) :
    Fn Try.prog 16 [.slice a n cap] (SA.rds 1 (.slice a n cap) n (b.map v8) :: L) (fun v L' => v = vN (frst b) ∧ L' = SA.rds 1 (.slice a n cap) n (b.map v8) :: L) := by
  refine Fn.of (N := 42) Try.func16 rfl rfl ?_
  intro Xh
  refine TC.seq ?_
  refine TC.region ?_
  refine TL.val rfl rfl rfl (Y.assign rfl rfl) ?_
  refine TL.nil ?_
  refine TQ.next ?_
  refine TC.seq ?_
  refine TC.seq ?_
  refine TC.region ?_
  refine TL.val rfl rfl rfl (Y.move rfl rfl) ?_
  refine TL.val rfl rfl rfl (Y.len rfl Try.underlying30 rfl) ?_
  refine TL.val rfl rfl rfl (Y.bin rfl rfl rfl (br_eqN (n := 0))) ?_
  refine TL.nil ?_
  refine TQ.next ?_
  refine TC.cond rfl (fun c0 => ?_) (fun c0 => ?_)
  · try simp only [decide_eq_true_eq, decide_eq_false_iff_not, Bool.not_eq_true', Bool.not_eq_false', Bool.and_eq_true, Bool.or_eq_true, Nat.not_lt, Nat.not_le, beq_iff_eq, bne_iff_ne] at c0
    refine TC.seq ?_
    refine TC.region ?_
    refine TL.val rfl rfl rfl (Y.assign rfl rfl) ?_
    refine TL.nil ?_
    refine TQ.next ?_
    refine TC.ret ?_
    refine TQ.then_ret ?_
    refine TQ.retE (res1 rfl rfl) (⟨by unfold frst; (repeat' split) <;> first | rfl | (exfalso; omega), rfl⟩) ?_
    exact ett
  · try simp only [decide_eq_true_eq, decide_eq_false_iff_not, Bool.not_eq_true', Bool.not_eq_false', Bool.and_eq_true, Bool.or_eq_true, Nat.not_lt, Nat.not_le, beq_iff_eq, bne_iff_ne] at c0
    refine TC.know (reads_some (a := a) (A := SA.rds 1 (.slice a n cap) n (b.map v8)) Reads.rds inn (by omega) (by decide)) ?_
    rintro ⟨g, off, rfl⟩
    refine TC.skip ?_
    refine TQ.next ?_
    refine TC.seq ?_
    refine TC.seq ?_
    refine TC.region ?_
    refine TL.val rfl rfl rfl (Y.move rfl rfl) ?_
    refine TL.val rfl rfl rfl (by first | exact Y.indexSlB (j := 0) rfl sl30 rfl rfl (by omega) nqq | exact Y.indexSl (j := 0) rfl sl30 rfl rfl (by omega) nqq) ?_
    refine TL.val rfl rfl rfl (Y.load rfl sc5 rfl cel8) ?_
    refine TL.val rfl rfl rfl (Y.assign rfl rfl) ?_
    refine TL.nil ?_
    refine TQ.next ?_
    refine TC.block ?_
    refine TC.seq ?_
    refine TC.region ?_
    refine TL.val rfl rfl rfl (Y.move rfl rfl) ?_
    refine TL.val rfl rfl rfl (Y.bin rfl rfl rfl (br_leN (n := 3))) ?_
    refine TL.val rfl rfl rfl (Y.assign rfl rfl) ?_
    refine TL.nil ?_
    refine TQ.next ?_
    refine TC.cond rfl (fun c1 => ?_) (fun c1 => ?_)
    · try simp only [decide_eq_true_eq, decide_eq_false_iff_not, Bool.not_eq_true', Bool.not_eq_false', Bool.and_eq_true, Bool.or_eq_true, Nat.not_lt, Nat.not_le, beq_iff_eq, bne_iff_ne] at c1
      refine TC.seq ?_
      refine TC.region ?_
      refine TL.val rfl rfl rfl (Y.assign rfl rfl) ?_
      refine TL.nil ?_
      refine TQ.next ?_
      refine TC.ret ?_
      refine TQ.block_ret ?_
      refine TQ.then_ret ?_
      refine TQ.retE (res1 rfl rfl) (⟨by unfold frst; (repeat' split) <;> first | rfl | (exfalso; omega), rfl⟩) ?_
      exact ett
    · try simp only [decide_eq_true_eq, decide_eq_false_iff_not, Bool.not_eq_true', Bool.not_eq_false', Bool.and_eq_true, Bool.or_eq_true, Nat.not_lt, Nat.not_le, beq_iff_eq, bne_iff_ne] at c1
      refine TC.seq ?_
      refine TC.region ?_
      refine TL.val rfl rfl rfl (Y.move rfl rfl) ?_
      refine TL.val rfl rfl rfl (Y.bin rfl rfl rfl (br_geN (n := 20))) ?_
      refine TL.val rfl rfl rfl (Y.move rfl rfl) ?_
      refine TL.case (fun g6_2 => ?_) (fun g6_2 => ?_)
      · try simp only [decide_eq_true_eq, decide_eq_false_iff_not, Bool.not_eq_true', Bool.not_eq_false', Nat.not_lt, Nat.not_le, beq_iff_eq, bne_iff_ne] at g6_2
        refine TL.valG rfl rfl rfl (Y.move rfl rfl) ?_
        refine TL.valG rfl rfl rfl (Y.bin rfl rfl rfl (br_leN (n := 63))) ?_
        refine TL.val rfl rfl rfl (Y.pick_t rfl rfl rfl) ?_
        refine TL.val rfl rfl rfl (Y.assign rfl rfl) ?_
        refine TL.nil ?_
        refine TQ.next ?_
        refine TC.cond rfl (fun c2 => ?_) (fun c2 => ?_)
        · try simp only [decide_eq_true_eq, decide_eq_false_iff_not, Bool.not_eq_true', Bool.not_eq_false', Bool.and_eq_true, Bool.or_eq_true, Nat.not_lt, Nat.not_le, beq_iff_eq, bne_iff_ne] at c2
          refine TC.seq ?_
          refine TC.region ?_
          refine TL.val rfl rfl rfl (Y.assign rfl rfl) ?_
          refine TL.nil ?_
          refine TQ.next ?_
          refine TC.ret ?_
          refine TQ.block_ret ?_
          refine TQ.then_ret ?_
          refine TQ.retE (res1 rfl rfl) (⟨by unfold frst; (repeat' split) <;> first | rfl | (exfalso; omega), rfl⟩) ?_
          exact ett
        · try simp only [decide_eq_true_eq, decide_eq_false_iff_not, Bool.not_eq_true', Bool.not_eq_false', Bool.and_eq_true, Bool.or_eq_true, Nat.not_lt, Nat.not_le, beq_iff_eq, bne_iff_ne] at c2
          refine TC.seq ?_
          refine TC.region ?_
          refine TL.val rfl rfl rfl (Y.move rfl rfl) ?_
          refine TL.val rfl rfl rfl (Y.bin rfl rfl rfl (br_geN (n := 128))) ?_
          refine TL.val rfl rfl rfl (Y.move rfl rfl) ?_
          refine TL.case (fun g8_2 => ?_) (fun g8_2 => ?_)
          · try simp only [decide_eq_true_eq, decide_eq_false_iff_not, Bool.not_eq_true', Bool.not_eq_false', Nat.not_lt, Nat.not_le, beq_iff_eq, bne_iff_ne] at g8_2
            refine TL.valG rfl rfl rfl (Y.move rfl rfl) ?_
            refine TL.valG rfl rfl rfl (Y.bin rfl rfl rfl (br_leN (n := 191))) ?_
            refine TL.val rfl rfl rfl (Y.pick_t rfl rfl rfl) ?_
            refine TL.val rfl rfl rfl (Y.assign rfl rfl) ?_
            refine TL.nil ?_
            refine TQ.next ?_
            refine TC.cond rfl (fun c3 => ?_) (fun c3 => ?_)
            · try simp only [decide_eq_true_eq, decide_eq_false_iff_not, Bool.not_eq_true', Bool.not_eq_false', Bool.and_eq_true, Bool.or_eq_true, Nat.not_lt, Nat.not_le, beq_iff_eq, bne_iff_ne] at c3
              refine TC.seq ?_
              refine TC.seq ?_
              refine TC.region ?_
              refine TL.val rfl rfl rfl (Y.move rfl rfl) ?_
              refine TL.val rfl rfl rfl (Y.len rfl Try.underlying30 rfl) ?_
              refine TL.val rfl rfl rfl (Y.bin rfl rfl rfl (br_gtN (n := 1))) ?_
              refine TL.val rfl rfl rfl (Y.move rfl rfl) ?_
              refine TL.case (fun g9_3 => ?_) (fun g9_3 => ?_)
              · try simp only [decide_eq_true_eq, decide_eq_false_iff_not, Bool.not_eq_true', Bool.not_eq_false', Nat.not_lt, Nat.not_le, beq_iff_eq, bne_iff_ne] at g9_3
                refine TL.valG rfl rfl rfl (Y.move rfl rfl) ?_
                refine TL.valG rfl rfl rfl (by first | exact Y.indexSlB (j := 1) rfl sl30 rfl rfl (by omega) nqq | exact Y.indexSl (j := 1) rfl sl30 rfl rfl (by omega) nqq) ?_
                refine TL.valG rfl rfl rfl (Y.load rfl sc5 rfl cel8) ?_
                refine TL.valG rfl rfl rfl (Y.bin rfl rfl rfl (br_geN (n := 192))) ?_
                refine TL.val rfl rfl rfl (Y.pick_t rfl rfl rfl) ?_
                refine TL.val rfl rfl rfl (Y.move rfl rfl) ?_
                refine TL.case (fun g9_9 => ?_) (fun g9_9 => ?_)
                · try simp only [decide_eq_true_eq, decide_eq_false_iff_not, Bool.not_eq_true', Bool.not_eq_false', Nat.not_lt, Nat.not_le, beq_iff_eq, bne_iff_ne] at g9_9
                  refine TL.valG rfl rfl rfl (Y.move rfl rfl) ?_
                  refine TL.valG rfl rfl rfl (by first | exact Y.indexSlB (j := 1) rfl sl30 rfl rfl (by omega) nqq | exact Y.indexSl (j := 1) rfl sl30 rfl rfl (by omega) nqq) ?_
                  refine TL.valG rfl rfl rfl (Y.load rfl sc5 rfl cel8) ?_
                  refine TL.valG rfl rfl rfl (Y.bin rfl rfl rfl (br_leN (n := 223))) ?_
                  refine TL.val rfl rfl rfl (Y.pick_t rfl rfl rfl) ?_
                  refine TL.nil ?_
                  refine TQ.next ?_
                  refine TC.cond rfl (fun c4 => ?_) (fun c4 => ?_)
                  · try simp only [decide_eq_true_eq, decide_eq_false_iff_not, Bool.not_eq_true', Bool.not_eq_false', Bool.and_eq_true, Bool.or_eq_true, Nat.not_lt, Nat.not_le, beq_iff_eq, bne_iff_ne] at c4
                    refine TC.seq ?_
                    refine TC.region ?_
                    refine TL.val rfl rfl rfl (Y.assign rfl rfl) ?_
                    refine TL.nil ?_
                    refine TQ.next ?_
                    refine TC.ret ?_
                    refine TQ.then_ret ?_
                    refine TQ.block_ret ?_
                    refine TQ.then_ret ?_
                    refine TQ.retE (res1 rfl rfl) (⟨by unfold frst; (repeat' split) <;> first | rfl | (exfalso; omega), rfl⟩) ?_
                    exact ett
                  · try simp only [decide_eq_true_eq, decide_eq_false_iff_not, Bool.not_eq_true', Bool.not_eq_false', Bool.and_eq_true, Bool.or_eq_true, Nat.not_lt, Nat.not_le, beq_iff_eq, bne_iff_ne] at c4
                    refine TC.skip ?_
                    refine TQ.next ?_
                    refine TC.seq ?_
                    refine TC.region ?_
                    refine TL.val rfl rfl rfl (Y.assign rfl rfl) ?_
                    refine TL.nil ?_
                    refine TQ.next ?_
                    refine TC.ret ?_
                    refine TQ.block_ret ?_
                    refine TQ.then_ret ?_
                    refine TQ.retE (res1 rfl rfl) (⟨by unfold frst; (repeat' split) <;> first | rfl | (exfalso; omega), rfl⟩) ?_
                    exact ett
                · try simp only [decide_eq_true_eq, decide_eq_false_iff_not, Bool.not_eq_true', Bool.not_eq_false', Nat.not_lt, Nat.not_le, beq_iff_eq, bne_iff_ne] at g9_9
                  refine TL.not rfl rfl rfl ?_
                  refine TL.not rfl rfl rfl ?_
                  refine TL.not rfl rfl rfl ?_
                  refine TL.not rfl rfl rfl ?_
                  refine TL.val rfl rfl rfl (Y.pick_f rfl rfl rfl) ?_
                  refine TL.nil ?_
                  refine TQ.next ?_
                  refine TC.cond_f rfl ?_
                  refine TC.skip ?_
                  refine TQ.next ?_
                  refine TC.seq ?_
                  refine TC.region ?_
                  refine TL.val rfl rfl rfl (Y.assign rfl rfl) ?_
                  refine TL.nil ?_
                  refine TQ.next ?_
                  refine TC.ret ?_
                  refine TQ.block_ret ?_
                  refine TQ.then_ret ?_
                  refine TQ.retE (res1 rfl rfl) (⟨by unfold frst; (repeat' split) <;> first | rfl | (exfalso; omega), rfl⟩) ?_
                  exact ett
              · try simp only [decide_eq_true_eq, decide_eq_false_iff_not, Bool.not_eq_true', Bool.not_eq_false', Nat.not_lt, Nat.not_le, beq_iff_eq, bne_iff_ne] at g9_3
                refine TL.not rfl rfl rfl ?_
                refine TL.not rfl rfl rfl ?_
                refine TL.not rfl rfl rfl ?_
                refine TL.not rfl rfl rfl ?_
                refine TL.val rfl rfl rfl (Y.pick_f rfl rfl rfl) ?_
                refine TL.val rfl rfl rfl (Y.move rfl rfl) ?_
                refine TL.not rfl rfl rfl ?_
                refine TL.not rfl rfl rfl ?_
                refine TL.not rfl rfl rfl ?_
                refine TL.not rfl rfl rfl ?_
                refine TL.val rfl rfl rfl (Y.pick_f rfl rfl rfl) ?_
                refine TL.nil ?_
                refine TQ.next ?_
                refine TC.cond_f rfl ?_
                refine TC.skip ?_
                refine TQ.next ?_
                refine TC.seq ?_
                refine TC.region ?_
                refine TL.val rfl rfl rfl (Y.assign rfl rfl) ?_
                refine TL.nil ?_
                refine TQ.next ?_
                refine TC.ret ?_
                refine TQ.block_ret ?_
                refine TQ.then_ret ?_
                refine TQ.retE (res1 rfl rfl) (⟨by unfold frst; (repeat' split) <;> first | rfl | (exfalso; omega), rfl⟩) ?_
                exact ett
            · try simp only [decide_eq_true_eq, decide_eq_false_iff_not, Bool.not_eq_true', Bool.not_eq_false', Bool.and_eq_true, Bool.or_eq_true, Nat.not_lt, Nat.not_le, beq_iff_eq, bne_iff_ne] at c3
              refine TC.skip ?_
              refine TQ.block_normal ?_
              refine TQ.next ?_
              refine TC.seq ?_
              refine TC.region ?_
              refine TL.val rfl rfl rfl (Y.assign rfl rfl) ?_
              refine TL.nil ?_
              refine TQ.next ?_
              refine TC.ret ?_
              refine TQ.retE (res1 rfl rfl) (⟨by unfold frst; (repeat' split) <;> first | rfl | (exfalso; omega), rfl⟩) ?_
              exact ett
          · try simp only [decide_eq_true_eq, decide_eq_false_iff_not, Bool.not_eq_true', Bool.not_eq_false', Nat.not_lt, Nat.not_le, beq_iff_eq, bne_iff_ne] at g8_2
            refine TL.not rfl rfl rfl ?_
            refine TL.not rfl rfl rfl ?_
            refine TL.val rfl rfl rfl (Y.pick_f rfl rfl rfl) ?_
            refine TL.val rfl rfl rfl (Y.assign rfl rfl) ?_
            refine TL.nil ?_
            refine TQ.next ?_
            refine TC.cond_f rfl ?_
            refine TC.skip ?_
            refine TQ.block_normal ?_
            refine TQ.next ?_
            refine TC.seq ?_
            refine TC.region ?_
            refine TL.val rfl rfl rfl (Y.assign rfl rfl) ?_
            refine TL.nil ?_
            refine TQ.next ?_
            refine TC.ret ?_
            refine TQ.retE (res1 rfl rfl) (⟨by unfold frst; (repeat' split) <;> first | rfl | (exfalso; omega), rfl⟩) ?_
            exact ett
      · try simp only [decide_eq_true_eq, decide_eq_false_iff_not, Bool.not_eq_true', Bool.not_eq_false', Nat.not_lt, Nat.not_le, beq_iff_eq, bne_iff_ne] at g6_2
        refine TL.not rfl rfl rfl ?_
        refine TL.not rfl rfl rfl ?_
        refine TL.val rfl rfl rfl (Y.pick_f rfl rfl rfl) ?_
        refine TL.val rfl rfl rfl (Y.assign rfl rfl) ?_
        refine TL.nil ?_
        refine TQ.next ?_
        refine TC.cond_f rfl ?_
        refine TC.seq ?_
        refine TC.region ?_
        refine TL.val rfl rfl rfl (Y.move rfl rfl) ?_
        refine TL.val rfl rfl rfl (Y.bin rfl rfl rfl (br_geN (n := 128))) ?_
        refine TL.val rfl rfl rfl (Y.move rfl rfl) ?_
        refine TL.case (fun g8_2 => ?_) (fun g8_2 => ?_)
        · try simp only [decide_eq_true_eq, decide_eq_false_iff_not, Bool.not_eq_true', Bool.not_eq_false', Nat.not_lt, Nat.not_le, beq_iff_eq, bne_iff_ne] at g8_2
          refine TL.valG rfl rfl rfl (Y.move rfl rfl) ?_
          refine TL.valG rfl rfl rfl (Y.bin rfl rfl rfl (br_leN (n := 191))) ?_
          refine TL.val rfl rfl rfl (Y.pick_t rfl rfl rfl) ?_
          refine TL.val rfl rfl rfl (Y.assign rfl rfl) ?_
          refine TL.nil ?_
          refine TQ.next ?_
          refine TC.cond rfl (fun c3 => ?_) (fun c3 => ?_)
          · try simp only [decide_eq_true_eq, decide_eq_false_iff_not, Bool.not_eq_true', Bool.not_eq_false', Bool.and_eq_true, Bool.or_eq_true, Nat.not_lt, Nat.not_le, beq_iff_eq, bne_iff_ne] at c3
            refine TC.seq ?_
            refine TC.seq ?_
            refine TC.region ?_
            refine TL.val rfl rfl rfl (Y.move rfl rfl) ?_
            refine TL.val rfl rfl rfl (Y.len rfl Try.underlying30 rfl) ?_
            refine TL.val rfl rfl rfl (Y.bin rfl rfl rfl (br_gtN (n := 1))) ?_
            refine TL.val rfl rfl rfl (Y.move rfl rfl) ?_
            refine TL.case (fun g9_3 => ?_) (fun g9_3 => ?_)
            · try simp only [decide_eq_true_eq, decide_eq_false_iff_not, Bool.not_eq_true', Bool.not_eq_false', Nat.not_lt, Nat.not_le, beq_iff_eq, bne_iff_ne] at g9_3
              refine TL.valG rfl rfl rfl (Y.move rfl rfl) ?_
              refine TL.valG rfl rfl rfl (by first | exact Y.indexSlB (j := 1) rfl sl30 rfl rfl (by omega) nqq | exact Y.indexSl (j := 1) rfl sl30 rfl rfl (by omega) nqq) ?_
              refine TL.valG rfl rfl rfl (Y.load rfl sc5 rfl cel8) ?_
              refine TL.valG rfl rfl rfl (Y.bin rfl rfl rfl (br_geN (n := 192))) ?_
              refine TL.val rfl rfl rfl (Y.pick_t rfl rfl rfl) ?_
              refine TL.val rfl rfl rfl (Y.move rfl rfl) ?_
              refine TL.case (fun g9_9 => ?_) (fun g9_9 => ?_)
              · try simp only [decide_eq_true_eq, decide_eq_false_iff_not, Bool.not_eq_true', Bool.not_eq_false', Nat.not_lt, Nat.not_le, beq_iff_eq, bne_iff_ne] at g9_9
                refine TL.valG rfl rfl rfl (Y.move rfl rfl) ?_
                refine TL.valG rfl rfl rfl (by first | exact Y.indexSlB (j := 1) rfl sl30 rfl rfl (by omega) nqq | exact Y.indexSl (j := 1) rfl sl30 rfl rfl (by omega) nqq) ?_
                refine TL.valG rfl rfl rfl (Y.load rfl sc5 rfl cel8) ?_
                refine TL.valG rfl rfl rfl (Y.bin rfl rfl rfl (br_leN (n := 223))) ?_
                refine TL.val rfl rfl rfl (Y.pick_t rfl rfl rfl) ?_
                refine TL.nil ?_
                refine TQ.next ?_
                refine TC.cond rfl (fun c4 => ?_) (fun c4 => ?_)
                · try simp only [decide_eq_true_eq, decide_eq_false_iff_not, Bool.not_eq_true', Bool.not_eq_false', Bool.and_eq_true, Bool.or_eq_true, Nat.not_lt, Nat.not_le, beq_iff_eq, bne_iff_ne] at c4
                  refine TC.seq ?_
                  refine TC.region ?_
                  refine TL.val rfl rfl rfl (Y.assign rfl rfl) ?_
                  refine TL.nil ?_
                  refine TQ.next ?_
                  refine TC.ret ?_
                  refine TQ.then_ret ?_
                  refine TQ.block_ret ?_
                  refine TQ.then_ret ?_
                  refine TQ.retE (res1 rfl rfl) (⟨by unfold frst; (repeat' split) <;> first | rfl | (exfalso; omega), rfl⟩) ?_
                  exact ett
                · try simp only [decide_eq_true_eq, decide_eq_false_iff_not, Bool.not_eq_true', Bool.not_eq_false', Bool.and_eq_true, Bool.or_eq_true, Nat.not_lt, Nat.not_le, beq_iff_eq, bne_iff_ne] at c4
                  refine TC.skip ?_
                  refine TQ.next ?_
                  refine TC.seq ?_
                  refine TC.region ?_
                  refine TL.val rfl rfl rfl (Y.assign rfl rfl) ?_
                  refine TL.nil ?_
                  refine TQ.next ?_
                  refine TC.ret ?_
                  refine TQ.block_ret ?_
                  refine TQ.then_ret ?_
                  refine TQ.retE (res1 rfl rfl) (⟨by unfold frst; (repeat' split) <;> first | rfl | (exfalso; omega), rfl⟩) ?_
                  exact ett
              · try simp only [decide_eq_true_eq, decide_eq_false_iff_not, Bool.not_eq_true', Bool.not_eq_false', Nat.not_lt, Nat.not_le, beq_iff_eq, bne_iff_ne] at g9_9
                refine TL.not rfl rfl rfl ?_
                refine TL.not rfl rfl rfl ?_
                refine TL.not rfl rfl rfl ?_
                refine TL.not rfl rfl rfl ?_
                refine TL.val rfl rfl rfl (Y.pick_f rfl rfl rfl) ?_
                refine TL.nil ?_
                refine TQ.next ?_
                refine TC.cond_f rfl ?_
                refine TC.skip ?_
                refine TQ.next ?_
                refine TC.seq ?_
                refine TC.region ?_
                refine TL.val rfl rfl rfl (Y.assign rfl rfl) ?_
                refine TL.nil ?_
                refine TQ.next ?_
                refine TC.ret ?_
                refine TQ.block_ret ?_
                refine TQ.then_ret ?_
                refine TQ.retE (res1 rfl rfl) (⟨by unfold frst; (repeat' split) <;> first | rfl | (exfalso; omega), rfl⟩) ?_
                exact ett
            · try simp only [decide_eq_true_eq, decide_eq_false_iff_not, Bool.not_eq_true', Bool.not_eq_false', Nat.not_lt, Nat.not_le, beq_iff_eq, bne_iff_ne] at g9_3
              refine TL.not rfl rfl rfl ?_
              refine TL.not rfl rfl rfl ?_
              refine TL.not rfl rfl rfl ?_
              refine TL.not rfl rfl rfl ?_
              refine TL.val rfl rfl rfl (Y.pick_f rfl rfl rfl) ?_
              refine TL.val rfl rfl rfl (Y.move rfl rfl) ?_
              refine TL.not rfl rfl rfl ?_
              refine TL.not rfl rfl rfl ?_
              refine TL.not rfl rfl rfl ?_
              refine TL.not rfl rfl rfl ?_
              refine TL.val rfl rfl rfl (Y.pick_f rfl rfl rfl) ?_
              refine TL.nil ?_
              refine TQ.next ?_
              refine TC.cond_f rfl ?_
              refine TC.skip ?_
              refine TQ.next ?_
              refine TC.seq ?_
              refine TC.region ?_
              refine TL.val rfl rfl rfl (Y.assign rfl rfl) ?_
              refine TL.nil ?_
              refine TQ.next ?_
              refine TC.ret ?_
              refine TQ.block_ret ?_
              refine TQ.then_ret ?_
              refine TQ.retE (res1 rfl rfl) (⟨by unfold frst; (repeat' split) <;> first | rfl | (exfalso; omega), rfl⟩) ?_
              exact ett
          · try simp only [decide_eq_true_eq, decide_eq_false_iff_not, Bool.not_eq_true', Bool.not_eq_false', Bool.and_eq_true, Bool.or_eq_true, Nat.not_lt, Nat.not_le, beq_iff_eq, bne_iff_ne] at c3
            refine TC.skip ?_
            refine TQ.block_normal ?_
            refine TQ.next ?_
            refine TC.seq ?_
            refine TC.region ?_
            refine TL.val rfl rfl rfl (Y.assign rfl rfl) ?_
            refine TL.nil ?_
            refine TQ.next ?_
            refine TC.ret ?_
            refine TQ.retE (res1 rfl rfl) (⟨by unfold frst; (repeat' split) <;> first | rfl | (exfalso; omega), rfl⟩) ?_
            exact ett
        · try simp only [decide_eq_true_eq, decide_eq_false_iff_not, Bool.not_eq_true', Bool.not_eq_false', Nat.not_lt, Nat.not_le, beq_iff_eq, bne_iff_ne] at g8_2
          refine TL.not rfl rfl rfl ?_
          refine TL.not rfl rfl rfl ?_
          refine TL.val rfl rfl rfl (Y.pick_f rfl rfl rfl) ?_
          refine TL.val rfl rfl rfl (Y.assign rfl rfl) ?_
          refine TL.nil ?_
          refine TQ.next ?_
          refine TC.cond_f rfl ?_
          refine TC.skip ?_
          refine TQ.block_normal ?_
          refine TQ.next ?_
          refine TC.seq ?_
          refine TC.region ?_
          refine TL.val rfl rfl rfl (Y.assign rfl rfl) ?_
          refine TL.nil ?_
          refine TQ.next ?_
          refine TC.ret ?_
          refine TQ.retE (res1 rfl rfl) (⟨by unfold frst; (repeat' split) <;> first | rfl | (exfalso; omega), rfl⟩) ?_
          exact ett
end ice
end Go.Proofs.Ytpmplnkempcmjaa

/- ice: awake; the statements, walked. -/
namespace Go.Proofs.Ytpmplnkempcmjaa
set_option linter.unusedVariables false
set_option linter.unusedSimpArgs false
open Go.RowKit
namespace ice
open stun
namespace FxIceT
set_option maxRecDepth 100000
theorem ag28 : Program.aggN Try.prog 28 = some 2 := by kernel_rfl
theorem ag32 : Program.aggN Try.prog 32 = some 14 := by kernel_rfl
theorem eg28 : Try.prog.eqGuardType Try.prog.depth 28 = false := by kernel_rfl
theorem pl28 : Program.places Try.prog 28 = some [(0, 1), (1, 1)] := by kernel_rfl
theorem pl32 : Program.places Try.prog 32 = some [(0, 2), (2, 1), (3, 1), (4, 1), (5, 1), (6, 1), (7, 1), (8, 1), (9, 1), (10, 1), (11, 1), (12, 1), (13, 1)] := by kernel_rfl
theorem sc22 : Program.isSc Try.prog 22 = true := by kernel_rfl
theorem sc26 : Program.isSc Try.prog 26 = true := by kernel_rfl
theorem sf28 : Try.prog.underlying 28 = some (.struct (Try.prog.fieldsOf 28)) := by kernel_rfl
theorem sn28 : (Try.prog.fieldsOf 28).toList.map (fun f => (f.name == "_", f.type, f.offset)) = [(false, 26, 0), (false, 22, 1)] := by kernel_rfl
theorem sp28 : Try.prog.stoodInHeld 28 = false := by kernel_rfl
theorem zc28 : Program.zeroC Try.prog 28 = some #[.int .u32 0, .int .u16 0] := by kernel_rfl
theorem zc32 : Program.zeroC Try.prog 32 = some #[.int .u32 0, .int .u16 0, .int .i64 0, .string .empty, .string .empty, .int .i64 0, .int .i64 0, .bool false, .bool false, .slice none 0 0, .int .i64 0, .int .u8 0, .bool false, .slice none 0 0] := by kernel_rfl
end FxIceT
open FxIceT
theorem Ent.nilD {α : Type} [Dat α] {L : List SA} : Ent L (SA.dat (⟨none, 0, []⟩ : Sl α) :: L) := Ent.trans (Ent.nilOwn 0 (Dat.sz α)) (Ent.trans (Ent.under _ Ent.rdss0) (Ent.mkOwn (l := ([] : List α)) (cells := []) Pull.here Pull.here rfl rfl (by rw [Dat.cs_eq]; rfl)))
/-- the pairs behind the first check -/
theorem upd1 (a : Ad) (t : Int) : upd [] a t true = [(a, t, true)] := by
  simp [upd, pk, pl1, setL, ice.fin, nomU, tab]
theorem upd2 (a : Ad) (t u : Int) (nm : Bool) : upd [(a, t, nm)] a u true = [(a, u, true)] := by
  simp [upd, pk, pl1, setL, ice.fin, nomU, tab, eqA]
theorem fr1 (a : Ad) (t clk now : Int) : fr [(a, t, true)] clk now = decide (max now clk - t ≤ 30) := rfl
set_option maxHeartbeats 1000000 in
--REG rostrum/rostrumlaw05.awake : _ _ ⟨rfl, rfl⟩ => (ice.awake_fn _)
theorem awake_fn (L : List SA) : Fn Try.prog 7 [] L (fun v L' => v = .bool true ∧ L' = L) := by
  obtain ⟨s, hs, hsl⟩ := m0_some
  obtain ⟨ps, hp, hall, hcand⟩ := taken0 hs
  refine Fn.of (N := 44) Try.func7 rfl rfl ?_
  intro Xh
  refine TC.seq ?_
  refine TC.region ?_
  refine TL.val rfl rfl rfl (Y.assign rfl rfl) ?_
  refine TL.nil ?_
  refine TQ.next ?_
  refine TC.seq ?_
  refine TC.region ?_
  refine TL.eff rfl rfl rfl (X.call rfl Try.func8 (by kernel_rfl) rfl rfl (Fn.preE (by repeat first | (with_reducible apply Ent.refl) | (apply Ent.cons; case h => first | (with_reducible (repeat first | apply Pull.here | apply Pull.there); done) | (repeat first | apply Pull.here | apply Pull.there))) (New_fn sN sK (by decide) (by decide) _))) ?_
  rintro _ _ ⟨b6, na6, nc6, pa6, pc6, rfl, rfl⟩
  refine TL.val rfl rfl rfl (Y.assign rfl rfl) ?_
  refine TL.nil ?_
  refine TQ.next ?_
  refine TC.seq ?_
  refine TC.region ?_
  refine TL.val rfl rfl rfl (Y.move rfl rfl) ?_
  refine TL.val rfl rfl rfl (Y.buildS (cells := ckV 0 0 0 sU sK 0 1 true true none 0 [] 0 0 none 0 [] false) rfl rfl pl32 zc32 (by kernel_rfl)) ?_
  refine TL.to (Ent.nilD (α := UInt16)) ?_
  refine TL.eff rfl rfl rfl (X.call rfl Try.func10 (by kernel_rfl) rfl rfl (Fn.preE (by repeat first | (with_reducible apply Ent.refl) | (apply Ent.cons; case h => first | (with_reducible (repeat first | apply Pull.here | apply Pull.there); done) | (repeat first | apply Pull.here | apply Pull.there))) (bytesOf_made 0 0 0 sU sK 0 1 true true none 0 [] 0 0 none 0 [] (by decide) (by decide) _))) ?_
  rintro _ _ ⟨ba, bc, rfl, rfl⟩
  rw [bytes0 hs]
  refine TL.val rfl rfl rfl (Y.buildS (cells := #[v32 7, v16 0]) rfl rfl pl28 zc28 (by kernel_rfl)) ?_
  refine TL.eff rfl rfl rfl (X.call rfl Try.func9 (by kernel_rfl) rfl rfl (Fn.preE (by repeat first | (with_reducible apply Ent.refl) | (apply Ent.cons; case h => first | (with_reducible (repeat first | apply Pull.here | apply Pull.there); done) | (repeat first | apply Pull.here | apply Pull.there))) (Handle_ok b6 na6 nc6 (nmB sN) pa6 pc6 (bl sK) none 0 [] 0 ba s.length bc s rfl (by omega) (by decide) 7 0 5 (id0 0) ps hp hall (.inr (by decide)) (by decide) _))) ?_
  rintro _ _ ⟨oa, oc, la', lc', rfl, rfl⟩
  rw [hcand, show max (0 : Int) 5 = 5 from rfl, upd1]
  refine TL.val rfl rfl rfl (Y.move rfl rfl) ?_
  refine TL.val rfl rfl rfl (Y.extract rfl rfl rfl) ?_
  refine TL.val rfl rfl rfl (Y.extract rfl rfl rfl) ?_
  refine TL.val rfl rfl rfl (Y.assign rfl rfl) ?_
  refine TL.val rfl rfl rfl (Y.assign rfl rfl) ?_
  refine TL.nil ?_
  refine TQ.next ?_
  refine TC.seq ?_
  refine TC.region ?_
  refine TL.val rfl rfl rfl (Y.move rfl rfl) ?_
  refine TL.eff rfl rfl rfl (X.call rfl Try.func13 (by kernel_rfl) rfl rfl (Fn.preE (by repeat first | (with_reducible apply Ent.refl) | (apply Ent.cons; case h => first | (with_reducible (repeat first | apply Pull.here | apply Pull.there); done) | (repeat first | apply Pull.here | apply Pull.there))) (Selected_fn b6 na6 (nmB sN).length nc6 pa6 (bl sK).length pc6 la' lc' [((7, 0), 5, true)] 5 _))) ?_
  rintro _ _ ⟨rfl, rfl⟩
  rw [show sa [(((7, 0), 5, true) : Pr)] = ((7, 0) : Ad) from rfl]
  refine TL.val rfl rfl rfl (Y.move rfl rfl) ?_
  refine TL.val rfl rfl rfl (Y.extract rfl rfl rfl) ?_
  refine TL.val rfl rfl rfl (Y.extract rfl rfl rfl) ?_
  refine TL.eff rfl rfl rfl (X.alloc rfl zc28) ?_
  rintro _ _ ⟨b4, rfl, rfl⟩
  refine TL.eff0 rfl rfl (X.storeAll rfl (by kernel_rfl) (by rfl) rfl rfl (allOne (by rfl)) pul (by rfl)) ?_
  rintro _ _ rfl
  refine TL.val rfl rfl rfl (Y.assign rfl rfl) ?_
  refine TL.nil ?_
  refine TQ.next ?_
  refine TC.seq ?_
  refine TC.region ?_
  refine TL.val rfl rfl rfl (Y.move rfl rfl) ?_
  refine TL.val rfl rfl rfl (Y.bin rfl rfl rfl (br_eqN (n := 0))) ?_
  refine TL.is true (by first | rfl | (simp only [decide_eq_true_eq, decide_eq_false_iff_not, Bool.not_eq_true', Bool.not_eq_false', Bool.not_eq_eq_eq_not, Bool.not_true, Bool.not_false, Nat.not_lt, Nat.not_le]; omega) | (simp [*]; done) | (simp; omega)) ?_
  refine TL.val rfl rfl rfl (Y.move rfl rfl) ?_
  refine TL.valG rfl rfl rfl (Y.move rfl rfl) ?_
  refine TL.valG rfl rfl rfl (Y.len rfl Try.underlying30 rfl) ?_
  refine TL.valG rfl rfl rfl (Y.bin rfl rfl rfl (br_gtN (n := 20))) ?_
  refine TL.is true (by first | rfl | (simp only [decide_eq_true_eq, decide_eq_false_iff_not, Bool.not_eq_true', Bool.not_eq_false', Bool.not_eq_eq_eq_not, Bool.not_true, Bool.not_false, Nat.not_lt, Nat.not_le]; omega) | (simp [*]; done) | (simp; omega)) ?_
  refine TL.val rfl rfl rfl (Y.pick_t rfl rfl rfl) ?_
  refine TL.val rfl rfl rfl (Y.move rfl rfl) ?_
  refine TL.valG rfl rfl rfl (Y.move rfl rfl) ?_
  refine TL.val rfl rfl rfl (Y.pick_t rfl rfl rfl) ?_
  refine TL.val rfl rfl rfl (Y.move rfl rfl) ?_
  refine TL.valG rfl rfl rfl (Y.loadAgg rfl ag28 rfl (Cels.all (cs := #[v32 7, v16 0]) inn) (by first | rfl | ((try simp only [List.length_map, List.length_set, List.length_replicate]); omega))) ?_
  refine TL.as (.agg #[v32 7, v16 0]) (by rfl) ?_
  refine TL.valG rfl rfl rfl (Y.buildS (cells := #[v32 7, v16 0]) rfl rfl pl28 zc28 (by kernel_rfl)) ?_
  refine TL.valG rfl rfl rfl (Y.eqSt rfl sf28 sp28 eg28 sn28 rfl rfl (FEq.cons sc26 rfl rfl (EqV.int Try.underlying26) (FEq.cons sc22 rfl rfl (EqV.int Try.underlying22) FEq.nil))) ?_
  refine TL.is true (by first | rfl | (simp only [decide_eq_true_eq, decide_eq_false_iff_not, Bool.not_eq_true', Bool.not_eq_false', Bool.not_eq_eq_eq_not, Bool.not_true, Bool.not_false, Nat.not_lt, Nat.not_le]; omega) | (simp [*]; done) | (simp; omega)) ?_
  refine TL.val rfl rfl rfl (Y.pick_t rfl rfl rfl) ?_
  refine TL.val rfl rfl rfl (Y.move rfl rfl) ?_
  refine TL.valG rfl rfl rfl (Y.move rfl rfl) ?_
  refine TL.effG rfl rfl rfl (X.call rfl Try.func11 (by kernel_rfl) rfl rfl (Fn.preE (by repeat first | (with_reducible apply Ent.refl) | (apply Ent.cons; case h => first | (with_reducible (repeat first | apply Pull.here | apply Pull.there); done) | (repeat first | apply Pull.here | apply Pull.there))) (Fresh_fn b6 na6 (nmB sN).length nc6 pa6 (bl sK).length pc6 la' lc' [((7, 0), 5, true)] 5 35 (by decide) (by decide) (by decide) (by decide) _))) ?_
  rintro _ _ ⟨rfl, rfl⟩
  refine TL.is true (by first | rfl | (simp only [decide_eq_true_eq, decide_eq_false_iff_not, Bool.not_eq_true', Bool.not_eq_false', Bool.not_eq_eq_eq_not, Bool.not_true, Bool.not_false, Nat.not_lt, Nat.not_le]; omega) | (simp [*]; done) | (simp; omega)) ?_
  refine TL.val rfl rfl rfl (Y.pick_t rfl rfl rfl) ?_
  refine TL.val rfl rfl rfl (Y.move rfl rfl) ?_
  refine TL.valG rfl rfl rfl (Y.move rfl rfl) ?_
  refine TL.effG rfl rfl rfl (X.call rfl Try.func11 (by kernel_rfl) rfl rfl (Fn.preE (by repeat first | (with_reducible apply Ent.refl) | (apply Ent.cons; case h => first | (with_reducible (repeat first | apply Pull.here | apply Pull.there); done) | (repeat first | apply Pull.here | apply Pull.there))) (Fresh_fn b6 na6 (nmB sN).length nc6 pa6 (bl sK).length pc6 la' lc' [((7, 0), 5, true)] 5 36 (by decide) (by decide) (by decide) (by decide) _))) ?_
  rintro _ _ ⟨rfl, rfl⟩
  refine TL.valG rfl rfl rfl (Y.not rfl rfl) ?_
  refine TL.is true (by first | rfl | (simp only [decide_eq_true_eq, decide_eq_false_iff_not, Bool.not_eq_true', Bool.not_eq_false', Bool.not_eq_eq_eq_not, Bool.not_true, Bool.not_false, Nat.not_lt, Nat.not_le]; omega) | (simp [*]; done) | (simp; omega)) ?_
  refine TL.val rfl rfl rfl (Y.pick_t rfl rfl rfl) ?_
  refine TL.val rfl rfl rfl (Y.assign rfl rfl) ?_
  refine TL.nil ?_
  refine TQ.next ?_
  refine TC.ret ?_
  refine TQ.retE (res1 rfl rfl) (⟨rfl, rfl⟩) ?_
  exact ett
theorem nil_fn (a : Option Addr) (n cap : Nat) (b : List UInt8) (hn : b.length = n) (ip : UInt32) (port : UInt16) (now : Int) (L : List SA) :
    Fn Try.prog 5 [.slice a n cap, .agg #[v32 ip, v16 port], vI now] (SA.rds 1 (.slice a n cap) n (b.map v8) :: L) (fun v L' => v = .bool true ∧ L' = SA.rds 1 (.slice a n cap) n (b.map v8) :: L) := by
  refine Fn.of (N := 55) Try.func5 rfl rfl ?_
  intro Xh
  refine TC.seq ?_
  refine TC.region ?_
  refine TL.eff rfl rfl rfl (X.boxA rfl rfl) ?_
  rintro _ _ ⟨b4, rfl, rfl⟩
  refine TL.val rfl rfl rfl (Y.assign rfl rfl) ?_
  refine TL.nil ?_
  refine TQ.next ?_
  refine TC.seq ?_
  refine TC.seq ?_
  refine TC.region ?_
  refine TL.eff rfl rfl rfl (X.call rfl Try.func7 (by kernel_rfl) rfl rfl (Fn.preE (by repeat first | (with_reducible apply Ent.refl) | (apply Ent.cons; case h => first | (with_reducible (repeat first | apply Pull.here | apply Pull.there); done) | (repeat first | apply Pull.here | apply Pull.there))) (ice.awake_fn _))) ?_
  rintro _ _ ⟨rfl, rfl⟩
  refine TL.val rfl rfl rfl (Y.not rfl rfl) ?_
  refine TL.nil ?_
  refine TQ.next ?_
  refine TC.cond_f rfl ?_
  refine TC.skip ?_
  refine TQ.next ?_
  refine TC.seq ?_
  refine TC.region ?_
  refine TL.val rfl rfl rfl (Y.assign rfl rfl) ?_
  refine TL.nil ?_
  refine TQ.next ?_
  refine TC.seq ?_
  refine TC.region ?_
  refine TL.val rfl rfl rfl (Y.move rfl rfl) ?_
  refine TL.val rfl rfl rfl (Y.move rfl rfl) ?_
  refine TL.val rfl rfl rfl (Y.loadAgg rfl ag28 rfl (Cels.all (cs := #[v32 ip, v16 port]) inn) (by first | rfl | ((try simp only [List.length_map, List.length_set, List.length_replicate]); omega))) ?_
  refine TL.as (.agg #[v32 ip, v16 port]) (by rfl) ?_
  refine TL.val rfl rfl rfl (Y.move rfl rfl) ?_
  refine TL.eff rfl rfl rfl (X.call rfl Try.func9 (by kernel_rfl) rfl rfl (Fn.preE (by repeat first | (with_reducible apply Ent.refl) | (apply Ent.cons; case h => first | (with_reducible (repeat first | apply Pull.here | apply Pull.there); done) | (repeat first | apply Pull.here | apply Pull.there))) (Handle_nil _ _ _ _))) ?_
  rintro _ _ ⟨rfl, rfl⟩
  refine TL.val rfl rfl rfl (Y.move rfl rfl) ?_
  refine TL.val rfl rfl rfl (Y.extract rfl rfl rfl) ?_
  refine TL.val rfl rfl rfl (Y.extract rfl rfl rfl) ?_
  refine TL.val rfl rfl rfl (Y.assign rfl rfl) ?_
  refine TL.val rfl rfl rfl (Y.assign rfl rfl) ?_
  refine TL.nil ?_
  refine TQ.next ?_
  refine TC.seq ?_
  refine TC.region ?_
  refine TL.val rfl rfl rfl (Y.move rfl rfl) ?_
  refine TL.eff rfl rfl rfl (X.call rfl Try.func13 (by kernel_rfl) rfl rfl (Fn.preE (by repeat first | (with_reducible apply Ent.refl) | (apply Ent.cons; case h => first | (with_reducible (repeat first | apply Pull.here | apply Pull.there); done) | (repeat first | apply Pull.here | apply Pull.there))) (Selected_nil _))) ?_
  rintro _ _ ⟨rfl, rfl⟩
  refine TL.val rfl rfl rfl (Y.move rfl rfl) ?_
  refine TL.val rfl rfl rfl (Y.extract rfl rfl rfl) ?_
  refine TL.val rfl rfl rfl (Y.extract rfl rfl rfl) ?_
  refine TL.eff rfl rfl rfl (X.alloc rfl zc28) ?_
  rintro _ _ ⟨b10, rfl, rfl⟩
  refine TL.eff0 rfl rfl (X.storeAll rfl (by kernel_rfl) (by rfl) rfl rfl (allOne (by rfl)) pul (by rfl)) ?_
  rintro _ _ rfl
  refine TL.val rfl rfl rfl (Y.assign rfl rfl) ?_
  refine TL.nil ?_
  refine TQ.next ?_
  refine TC.seq ?_
  refine TC.region ?_
  refine TL.val rfl rfl rfl (Y.move rfl rfl) ?_
  refine TL.val rfl rfl rfl (Y.len rfl Try.underlying30 rfl) ?_
  refine TL.val rfl rfl rfl (Y.bin rfl rfl rfl (br_eqN (n := 0))) ?_
  refine TL.is true (by first | rfl | (simp only [decide_eq_true_eq, decide_eq_false_iff_not, Bool.not_eq_true', Bool.not_eq_false', Bool.not_eq_eq_eq_not, Bool.not_true, Bool.not_false, Nat.not_lt, Nat.not_le]; omega) | (simp [*]; done) | (simp; omega)) ?_
  refine TL.val rfl rfl rfl (Y.move rfl rfl) ?_
  refine TL.valG rfl rfl rfl (Y.move rfl rfl) ?_
  refine TL.valG rfl rfl rfl (Y.bin rfl rfl rfl (br_eqN (n := 1))) ?_
  refine TL.is true (by first | rfl | (simp only [decide_eq_true_eq, decide_eq_false_iff_not, Bool.not_eq_true', Bool.not_eq_false', Bool.not_eq_eq_eq_not, Bool.not_true, Bool.not_false, Nat.not_lt, Nat.not_le]; omega) | (simp [*]; done) | (simp; omega)) ?_
  refine TL.val rfl rfl rfl (Y.pick_t rfl rfl rfl) ?_
  refine TL.val rfl rfl rfl (Y.move rfl rfl) ?_
  refine TL.valG rfl rfl rfl (Y.loadAgg rfl ag28 rfl (Cels.all (cs := #[v32 0, v16 0]) inn) (by first | rfl | ((try simp only [List.length_map, List.length_set, List.length_replicate]); omega))) ?_
  refine TL.as (.agg #[v32 0, v16 0]) (by rfl) ?_
  refine TL.valG rfl rfl rfl (Y.buildS (cells := #[v32 0, v16 0]) rfl rfl pl28 zc28 (by kernel_rfl)) ?_
  refine TL.valG rfl rfl rfl (Y.eqSt rfl sf28 sp28 eg28 sn28 rfl rfl (FEq.cons sc26 rfl rfl (EqV.int Try.underlying26) (FEq.cons sc22 rfl rfl (EqV.int Try.underlying22) FEq.nil))) ?_
  refine TL.is true (by first | rfl | (simp only [decide_eq_true_eq, decide_eq_false_iff_not, Bool.not_eq_true', Bool.not_eq_false', Bool.not_eq_eq_eq_not, Bool.not_true, Bool.not_false, Nat.not_lt, Nat.not_le]; omega) | (simp [*]; done) | (simp; omega)) ?_
  refine TL.val rfl rfl rfl (Y.pick_t rfl rfl rfl) ?_
  refine TL.val rfl rfl rfl (Y.move rfl rfl) ?_
  refine TL.valG rfl rfl rfl (Y.move rfl rfl) ?_
  refine TL.valG rfl rfl rfl (Y.not rfl rfl) ?_
  refine TL.is true (by first | rfl | (simp only [decide_eq_true_eq, decide_eq_false_iff_not, Bool.not_eq_true', Bool.not_eq_false', Bool.not_eq_eq_eq_not, Bool.not_true, Bool.not_false, Nat.not_lt, Nat.not_le]; omega) | (simp [*]; done) | (simp; omega)) ?_
  refine TL.val rfl rfl rfl (Y.pick_t rfl rfl rfl) ?_
  refine TL.val rfl rfl rfl (Y.move rfl rfl) ?_
  refine TL.valG rfl rfl rfl (Y.move rfl rfl) ?_
  refine TL.valG rfl rfl rfl (Y.move rfl rfl) ?_
  refine TL.effG rfl rfl rfl (X.call rfl Try.func11 (by kernel_rfl) rfl rfl (Fn.preE (by repeat first | (with_reducible apply Ent.refl) | (apply Ent.cons; case h => first | (with_reducible (repeat first | apply Pull.here | apply Pull.there); done) | (repeat first | apply Pull.here | apply Pull.there))) (Fresh_nil _ _))) ?_
  rintro _ _ ⟨rfl, rfl⟩
  refine TL.valG rfl rfl rfl (Y.not rfl rfl) ?_
  refine TL.is true (by first | rfl | (simp only [decide_eq_true_eq, decide_eq_false_iff_not, Bool.not_eq_true', Bool.not_eq_false', Bool.not_eq_eq_eq_not, Bool.not_true, Bool.not_false, Nat.not_lt, Nat.not_le]; omega) | (simp [*]; done) | (simp; omega)) ?_
  refine TL.val rfl rfl rfl (Y.pick_t rfl rfl rfl) ?_
  refine TL.val rfl rfl rfl (Y.move rfl rfl) ?_
  refine TL.valG rfl rfl rfl (Y.move rfl rfl) ?_
  refine TL.effG rfl rfl rfl (X.call rfl Try.func14 (by kernel_rfl) rfl rfl (Fn.preE (by repeat first | (with_reducible apply Ent.refl) | (apply Ent.cons; case h => first | (with_reducible (repeat first | apply Pull.here | apply Pull.there); done) | (repeat first | apply Pull.here | apply Pull.there))) (Pairs_nil _))) ?_
  rintro _ _ ⟨rfl, rfl⟩
  refine TL.valG rfl rfl rfl (Y.len rfl Try.underlying48 rfl) ?_
  refine TL.valG rfl rfl rfl (Y.bin rfl rfl rfl (br_eqN (n := 0))) ?_
  refine TL.is true (by first | rfl | (simp only [decide_eq_true_eq, decide_eq_false_iff_not, Bool.not_eq_true', Bool.not_eq_false', Bool.not_eq_eq_eq_not, Bool.not_true, Bool.not_false, Nat.not_lt, Nat.not_le]; omega) | (simp [*]; done) | (simp; omega)) ?_
  refine TL.val rfl rfl rfl (Y.pick_t rfl rfl rfl) ?_
  refine TL.val rfl rfl rfl (Y.assign rfl rfl) ?_
  refine TL.nil ?_
  refine TQ.next ?_
  refine TC.ret ?_
  refine TQ.retE (res1 rfl rfl) (⟨rfl, rfl⟩) ?_
  exact ett
theorem firsts_fn (a : Option Addr) (n cap : Nat) (b : List UInt8) (hn : b.length = n) (L : List SA) :
    Fn Try.prog 6 [.slice a n cap] (SA.rds 1 (.slice a n cap) n (b.map v8) :: L) (fun v L' => v = .bool true ∧ L' = SA.rds 1 (.slice a n cap) n (b.map v8) :: L) := by
  refine Fn.of (N := 10) Try.func6 rfl rfl ?_
  intro Xh
  refine TC.seq ?_
  refine TC.region ?_
  refine TL.val rfl rfl rfl (Y.assign rfl rfl) ?_
  refine TL.nil ?_
  refine TQ.next ?_
  refine TC.seq ?_
  refine TC.seq ?_
  refine TC.region ?_
  refine TL.eff rfl rfl rfl (X.call rfl Try.func7 (by kernel_rfl) rfl rfl (Fn.preE (by repeat first | (with_reducible apply Ent.refl) | (apply Ent.cons; case h => first | (with_reducible (repeat first | apply Pull.here | apply Pull.there); done) | (repeat first | apply Pull.here | apply Pull.there))) (ice.awake_fn _))) ?_
  rintro _ _ ⟨rfl, rfl⟩
  refine TL.val rfl rfl rfl (Y.not rfl rfl) ?_
  refine TL.nil ?_
  refine TQ.next ?_
  refine TC.cond_f rfl ?_
  refine TC.skip ?_
  refine TQ.next ?_
  refine TC.seq ?_
  refine TC.region ?_
  refine TL.val rfl rfl rfl (Y.move rfl rfl) ?_
  refine TL.eff rfl rfl rfl (X.call rfl Try.func15 (by kernel_rfl) rfl rfl (Fn.preE (by repeat first | (with_reducible apply Ent.refl) | (apply Ent.cons; case h => first | (with_reducible (repeat first | apply Pull.here | apply Pull.there); done) | (repeat first | apply Pull.here | apply Pull.there))) (ice.First_fn _ _ _ _ (by first | assumption | rfl) _))) ?_
  rintro _ _ ⟨rfl, rfl⟩
  refine TL.val rfl rfl rfl (Y.move rfl rfl) ?_
  refine TL.eff rfl rfl rfl (X.call rfl Try.func16 (by kernel_rfl) rfl rfl (Fn.preE (by repeat first | (with_reducible apply Ent.refl) | (apply Ent.cons; case h => first | (with_reducible (repeat first | apply Pull.here | apply Pull.there); done) | (repeat first | apply Pull.here | apply Pull.there))) (ice.refFirst_fn _ _ _ _ (by first | assumption | rfl) _))) ?_
  rintro _ _ ⟨rfl, rfl⟩
  refine TL.val rfl rfl rfl (Y.bin rfl rfl rfl (br_eqN)) ?_
  refine TL.is true (by first | rfl | (simp only [decide_eq_true_eq, decide_eq_false_iff_not, Bool.not_eq_true', Bool.not_eq_false', Bool.not_eq_eq_eq_not, Bool.not_true, Bool.not_false, Nat.not_lt, Nat.not_le]; omega) | (simp [*]; done) | (simp; omega)) ?_
  refine TL.val rfl rfl rfl (Y.assign rfl rfl) ?_
  refine TL.nil ?_
  refine TQ.next ?_
  refine TC.ret ?_
  refine TQ.retE (res1 rfl rfl) (⟨rfl, rfl⟩) ?_
  exact ett
set_option maxHeartbeats 2000000 in
theorem fades_fn (first gap later : UInt16) (L : List SA) : Fn Try.prog 3 [v16 first, v16 gap, v16 later] L (fun v L' => v = .bool true ∧ L' = L) := by
  obtain ⟨s, hs, hsl⟩ := m0_some
  obtain ⟨ps, hp, hall, hcand⟩ := taken0 hs
  have hf := first.toNat_lt
  have hg := gap.toNat_lt
  have hl := later.toNat_lt
  refine Fn.of (N := 76) Try.func3 rfl rfl ?_
  intro Xh
  refine TC.seq ?_
  refine TC.region ?_
  refine TL.val rfl rfl rfl (Y.assign rfl rfl) ?_
  refine TL.nil ?_
  refine TQ.next ?_
  refine TC.seq ?_
  refine TC.seq ?_
  refine TC.region ?_
  refine TL.eff rfl rfl rfl (X.call rfl Try.func7 (by kernel_rfl) rfl rfl (Fn.preE (by repeat first | (with_reducible apply Ent.refl) | (apply Ent.cons; case h => first | (with_reducible (repeat first | apply Pull.here | apply Pull.there); done) | (repeat first | apply Pull.here | apply Pull.there))) (ice.awake_fn _))) ?_
  rintro _ _ ⟨rfl, rfl⟩
  refine TL.val rfl rfl rfl (Y.not rfl rfl) ?_
  refine TL.nil ?_
  refine TQ.next ?_
  refine TC.cond_f rfl ?_
  refine TC.skip ?_
  refine TQ.next ?_
  refine TC.seq ?_
  refine TC.region ?_
  refine TL.eff rfl rfl rfl (X.call rfl Try.func8 (by kernel_rfl) rfl rfl (Fn.preE (by repeat first | (with_reducible apply Ent.refl) | (apply Ent.cons; case h => first | (with_reducible (repeat first | apply Pull.here | apply Pull.there); done) | (repeat first | apply Pull.here | apply Pull.there))) (New_fn sN sK (by decide) (by decide) _))) ?_
  rintro _ _ ⟨b18, na18, nc18, pa18, pc18, rfl, rfl⟩
  refine TL.val rfl rfl rfl (Y.assign rfl rfl) ?_
  refine TL.nil ?_
  refine TQ.next ?_
  refine TC.seq ?_
  refine TC.region ?_
  refine TL.val rfl rfl rfl (Y.buildS (cells := ckV 0 0 0 sU sK 0 1 true true none 0 [] 0 0 none 0 [] false) rfl rfl pl32 zc32 (by kernel_rfl)) ?_
  refine TL.eff rfl rfl rfl (X.alloc rfl zc32) ?_
  rintro _ _ ⟨b8, rfl, rfl⟩
  refine TL.eff0 rfl rfl (X.storeAll rfl (by kernel_rfl) (by rfl) rfl rfl (allOne (by rfl)) pul (by rfl)) ?_
  rintro _ _ rfl
  refine TL.nil ?_
  refine TQ.next ?_
  refine TC.seq ?_
  refine TC.region ?_
  refine TL.val rfl rfl rfl (Y.move rfl rfl) ?_
  refine TL.val rfl rfl rfl (Y.conv rfl Try.underlying22 Try.underlying2 rfl (cv_16_N)) ?_
  refine TL.as (vI first.toNat) (by rfl) ?_
  refine TL.val rfl rfl rfl (Y.assign rfl rfl) ?_
  refine TL.nil ?_
  refine TQ.next ?_
  refine TC.seq ?_
  refine TC.region ?_
  refine TL.val rfl rfl rfl (Y.move rfl rfl) ?_
  refine TL.val rfl rfl rfl (Y.loadAgg rfl ag32 rfl (Cels.all (cs := ckV 0 0 0 sU sK 0 1 true true none 0 [] 0 0 none 0 [] false) inn) (by first | rfl | ((try simp only [List.length_map, List.length_set, List.length_replicate]); omega))) ?_
  refine TL.as (.agg (ckV 0 0 0 sU sK 0 1 true true none 0 [] 0 0 none 0 [] false)) (by rfl) ?_
  refine TL.to (Ent.nilD (α := UInt16)) ?_
  refine TL.eff rfl rfl rfl (X.call rfl Try.func10 (by kernel_rfl) rfl rfl (Fn.preE (by repeat first | (with_reducible apply Ent.refl) | (apply Ent.cons; case h => first | (with_reducible (repeat first | apply Pull.here | apply Pull.there); done) | (repeat first | apply Pull.here | apply Pull.there))) (bytesOf_made 0 0 0 sU sK 0 1 true true none 0 [] 0 0 none 0 [] (by decide) (by decide) _))) ?_
  rintro _ _ ⟨ba, bc, rfl, rfl⟩
  rw [bytes0 hs]
  refine TL.val rfl rfl rfl (Y.buildS (cells := #[v32 0, v16 1]) rfl rfl pl28 zc28 (by kernel_rfl)) ?_
  refine TL.val rfl rfl rfl (Y.move rfl rfl) ?_
  refine TL.eff rfl rfl rfl (X.call rfl Try.func9 (by kernel_rfl) rfl rfl (Fn.preE (by repeat first | (with_reducible apply Ent.refl) | (apply Ent.cons; case h => first | (with_reducible (repeat first | apply Pull.here | apply Pull.there); done) | (repeat first | apply Pull.here | apply Pull.there))) (Handle_ok b18 na18 nc18 (nmB sN) pa18 pc18 (bl sK) none 0 [] 0 ba s.length bc s rfl (by omega) (by decide) 0 1 first.toNat (id0 0) ps hp hall (.inr (by decide)) (by decide) _))) ?_
  rintro _ _ ⟨oa, oc, la', lc', rfl, rfl⟩
  rw [hcand, show max (0 : Int) first.toNat = first.toNat by omega, upd1]
  refine TL.val rfl rfl rfl (Y.move rfl rfl) ?_
  refine TL.val rfl rfl rfl (Y.extract rfl rfl rfl) ?_
  refine TL.val rfl rfl rfl (Y.extract rfl rfl rfl) ?_
  refine TL.val rfl rfl rfl (Y.assign rfl rfl) ?_
  refine TL.val rfl rfl rfl (Y.assign rfl rfl) ?_
  refine TL.nil ?_
  refine TQ.next ?_
  refine TC.seq ?_
  refine TC.region ?_
  refine TL.val rfl rfl rfl (Y.move rfl rfl) ?_
  refine TL.val rfl rfl rfl (Y.move rfl rfl) ?_
  refine TL.val rfl rfl rfl (Y.move rfl rfl) ?_
  refine TL.val rfl rfl rfl (Y.conv rfl Try.underlying22 Try.underlying2 rfl (cv_16_N)) ?_
  refine TL.val rfl rfl rfl (Y.bin rfl rfl rfl (br_addI (by omega) (by omega))) ?_
  refine TL.eff rfl rfl rfl (X.call rfl Try.func11 (by kernel_rfl) rfl rfl (Fn.preE (by repeat first | (with_reducible apply Ent.refl) | (apply Ent.cons; case h => first | (with_reducible (repeat first | apply Pull.here | apply Pull.there); done) | (repeat first | apply Pull.here | apply Pull.there))) (Fresh_fn b18 na18 (nmB sN).length nc18 pa18 (bl sK).length pc18 la' lc' [((0, 1), (first.toNat : Int), true)] first.toNat ((first.toNat : Int) + (gap.toNat : Int)) (by simp; omega) (by omega) (by omega) (by omega) _))) ?_
  rintro _ _ ⟨rfl, rfl⟩
  rw [fr1, show max ((first.toNat : Int) + (gap.toNat : Int)) (first.toNat : Int) - (first.toNat : Int) = (gap.toNat : Int) by omega]
  refine TL.val rfl rfl rfl (Y.assign rfl rfl) ?_
  refine TL.nil ?_
  refine TQ.next ?_
  refine TC.seq ?_
  refine TC.region ?_
  refine TL.val rfl rfl rfl (Y.move rfl rfl) ?_
  refine TL.val rfl rfl rfl (Y.loadAgg rfl ag32 rfl (Cels.all (cs := ckV 0 0 0 sU sK 0 1 true true none 0 [] 0 0 none 0 [] false) inn) (by first | rfl | ((try simp only [List.length_map, List.length_set, List.length_replicate]); omega))) ?_
  refine TL.as (.agg (ckV 0 0 0 sU sK 0 1 true true none 0 [] 0 0 none 0 [] false)) (by rfl) ?_
  refine TL.to (Ent.nilD (α := UInt16)) ?_
  refine TL.eff rfl rfl rfl (X.call rfl Try.func10 (by kernel_rfl) rfl rfl (Fn.preE (by repeat first | (with_reducible apply Ent.refl) | (apply Ent.cons; case h => first | (with_reducible (repeat first | apply Pull.here | apply Pull.there); done) | (repeat first | apply Pull.here | apply Pull.there))) (bytesOf_made 0 0 0 sU sK 0 1 true true none 0 [] 0 0 none 0 [] (by decide) (by decide) _))) ?_
  rintro _ _ ⟨ba2, bc2, rfl, rfl⟩
  rw [bytes0 hs]
  refine TL.val rfl rfl rfl (Y.buildS (cells := #[v32 0, v16 1]) rfl rfl pl28 zc28 (by kernel_rfl)) ?_
  refine TL.val rfl rfl rfl (Y.move rfl rfl) ?_
  refine TL.val rfl rfl rfl (Y.move rfl rfl) ?_
  refine TL.val rfl rfl rfl (Y.conv rfl Try.underlying22 Try.underlying2 rfl (cv_16_N)) ?_
  refine TL.val rfl rfl rfl (Y.bin rfl rfl rfl (br_addI (by omega) (by omega))) ?_
  refine TL.eff rfl rfl rfl (X.call rfl Try.func9 (by kernel_rfl) rfl rfl (Fn.preE (by repeat first | (with_reducible apply Ent.refl) | (apply Ent.cons; case h => first | (with_reducible (repeat first | apply Pull.here | apply Pull.there); done) | (repeat first | apply Pull.here | apply Pull.there))) (Handle_ok b18 na18 nc18 (nmB sN) pa18 pc18 (bl sK) la' lc' [((0, 1), (first.toNat : Int), true)] first.toNat ba2 s.length bc2 s rfl (by omega) (by decide) 0 1 ((first.toNat : Int) + (gap.toNat : Int)) (id0 0) ps hp hall (.inr (by show 1 < 4; decide)) (by show 1 ≤ 4; decide) _))) ?_
  rintro _ _ ⟨oa2, oc2, la2, lc2, rfl, rfl⟩
  rw [hcand, show max (first.toNat : Int) ((first.toNat : Int) + (gap.toNat : Int)) = (first.toNat : Int) + (gap.toNat : Int) by omega, upd2]
  refine TL.val rfl rfl rfl (Y.move rfl rfl) ?_
  refine TL.val rfl rfl rfl (Y.extract rfl rfl rfl) ?_
  refine TL.val rfl rfl rfl (Y.extract rfl rfl rfl) ?_
  refine TL.val rfl rfl rfl (Y.assign rfl rfl) ?_
  refine TL.val rfl rfl rfl (Y.assign rfl rfl) ?_
  refine TL.nil ?_
  refine TQ.next ?_
  refine TC.seq ?_
  refine TC.region ?_
  refine TL.val rfl rfl rfl (Y.move rfl rfl) ?_
  refine TL.val rfl rfl rfl (Y.move rfl rfl) ?_
  refine TL.val rfl rfl rfl (Y.move rfl rfl) ?_
  refine TL.val rfl rfl rfl (Y.conv rfl Try.underlying22 Try.underlying2 rfl (cv_16_N)) ?_
  refine TL.val rfl rfl rfl (Y.bin rfl rfl rfl (br_addI (by omega) (by omega))) ?_
  refine TL.val rfl rfl rfl (Y.move rfl rfl) ?_
  refine TL.val rfl rfl rfl (Y.conv rfl Try.underlying22 Try.underlying2 rfl (cv_16_N)) ?_
  refine TL.val rfl rfl rfl (Y.bin rfl rfl rfl (br_addI (by omega) (by omega))) ?_
  refine TL.eff rfl rfl rfl (X.call rfl Try.func11 (by kernel_rfl) rfl rfl (Fn.preE (by repeat first | (with_reducible apply Ent.refl) | (apply Ent.cons; case h => first | (with_reducible (repeat first | apply Pull.here | apply Pull.there); done) | (repeat first | apply Pull.here | apply Pull.there))) (Fresh_fn b18 na18 (nmB sN).length nc18 pa18 (bl sK).length pc18 la2 lc2 [((0, 1), (first.toNat : Int) + (gap.toNat : Int), true)] ((first.toNat : Int) + (gap.toNat : Int)) ((first.toNat : Int) + (gap.toNat : Int) + (later.toNat : Int)) (by simp; omega) (by omega) (by omega) (by omega) _))) ?_
  rintro _ _ ⟨rfl, rfl⟩
  rw [fr1, show max ((first.toNat : Int) + (gap.toNat : Int) + (later.toNat : Int)) ((first.toNat : Int) + (gap.toNat : Int)) - ((first.toNat : Int) + (gap.toNat : Int)) = (later.toNat : Int) by omega]
  refine TL.val rfl rfl rfl (Y.assign rfl rfl) ?_
  refine TL.nil ?_
  refine TQ.next ?_
  refine TC.seq ?_
  refine TC.region ?_
  refine TL.val rfl rfl rfl (Y.move rfl rfl) ?_
  refine TL.val rfl rfl rfl (Y.bin rfl rfl rfl (br_eqN (n := 0))) ?_
  refine TL.is true (by first | rfl | (simp only [decide_eq_true_eq, decide_eq_false_iff_not, Bool.not_eq_true', Bool.not_eq_false', Bool.not_eq_eq_eq_not, Bool.not_true, Bool.not_false, Nat.not_lt, Nat.not_le]; omega) | (simp [*]; done) | (simp; omega)) ?_
  refine TL.val rfl rfl rfl (Y.move rfl rfl) ?_
  refine TL.valG rfl rfl rfl (Y.move rfl rfl) ?_
  refine TL.valG rfl rfl rfl (Y.bin rfl rfl rfl (br_eqN (n := 0))) ?_
  refine TL.is true (by first | rfl | (simp only [decide_eq_true_eq, decide_eq_false_iff_not, Bool.not_eq_true', Bool.not_eq_false', Bool.not_eq_eq_eq_not, Bool.not_true, Bool.not_false, Nat.not_lt, Nat.not_le]; omega) | (simp [*]; done) | (simp; omega)) ?_
  refine TL.val rfl rfl rfl (Y.pick_t rfl rfl rfl) ?_
  refine TL.val rfl rfl rfl (Y.move rfl rfl) ?_
  refine TL.valG rfl rfl rfl (Y.move rfl rfl) ?_
  refine TL.valG rfl rfl rfl (Y.move rfl rfl) ?_
  refine TL.valG rfl rfl rfl (Y.bin rfl rfl rfl (br_leN (n := 30))) ?_
  refine TL.valG rfl rfl rfl (Y.eqBool rfl Try.underlying4 rfl rfl) ?_
  refine TL.is true (by (rw [beq_iff_eq, decide_eq_decide]; omega)) ?_
  refine TL.val rfl rfl rfl (Y.pick_t rfl rfl rfl) ?_
  refine TL.val rfl rfl rfl (Y.move rfl rfl) ?_
  refine TL.valG rfl rfl rfl (Y.move rfl rfl) ?_
  refine TL.valG rfl rfl rfl (Y.move rfl rfl) ?_
  refine TL.valG rfl rfl rfl (Y.bin rfl rfl rfl (br_leN (n := 30))) ?_
  refine TL.valG rfl rfl rfl (Y.eqBool rfl Try.underlying4 rfl rfl) ?_
  refine TL.is true (by (rw [beq_iff_eq, decide_eq_decide]; omega)) ?_
  refine TL.val rfl rfl rfl (Y.pick_t rfl rfl rfl) ?_
  refine TL.val rfl rfl rfl (Y.assign rfl rfl) ?_
  refine TL.nil ?_
  refine TQ.next ?_
  refine TC.ret ?_
  refine TQ.retE (res1 rfl rfl) (⟨rfl, rfl⟩) ?_
  exact ett
end ice
end Go.Proofs.Ytpmplnkempcmjaa

/- ice: IceGuards, walked; the statements meet their rows. -/
namespace Go.Proofs.Ytpmplnkempcmjaa
set_option linter.unusedVariables false
set_option linter.unusedSimpArgs false
open Go.ChangeShapes Go.WideShapes Go.ChangeAt Go.RowKit
namespace ice
open stun
namespace FxIceG
set_option maxRecDepth 100000
theorem ag28 : Program.aggN Try.prog 28 = some 2 := by kernel_rfl
theorem ag32 : Program.aggN Try.prog 32 = some 14 := by kernel_rfl
theorem eg28 : Try.prog.eqGuardType Try.prog.depth 28 = false := by kernel_rfl
theorem el30 : Elt Try.prog 30 5 1 1 (.int .u8 0) := ⟨Try.underlying30, by kernel_rfl, rfl, by decide, by simp [Value.cells, Value.oneCell']⟩
theorem fo32_0 : Program.fieldOff Try.prog 32 0 = some 0 := by kernel_rfl
theorem fo32_1 : Program.fieldOff Try.prog 32 1 = some 2 := by kernel_rfl
theorem sc2 : Program.isSc Try.prog 2 = true := by kernel_rfl
theorem sc22 : Program.isSc Try.prog 22 = true := by kernel_rfl
theorem sc26 : Program.isSc Try.prog 26 = true := by kernel_rfl
theorem sf28 : Try.prog.underlying 28 = some (.struct (Try.prog.fieldsOf 28)) := by kernel_rfl
theorem sl39 : Program.slI Try.prog 39 = some 14 := by kernel_rfl
theorem sn28 : (Try.prog.fieldsOf 28).toList.map (fun f => (f.name == "_", f.type, f.offset)) = [(false, 26, 0), (false, 22, 1)] := by kernel_rfl
theorem sp28 : Try.prog.stoodInHeld 28 = false := by kernel_rfl
theorem zc28 : Program.zeroC Try.prog 28 = some #[.int .u32 0, .int .u16 0] := by kernel_rfl
theorem zc43 : Program.zeroC Try.prog 43 = some #[.int .i64 0, .int .i64 0, .int .u8 0, .int .u8 0, .int .u8 0, .int .u8 0, .int .u8 0, .int .u8 0, .int .u8 0, .int .u8 0, .int .u8 0, .int .u8 0, .int .u8 0, .int .u8 0, .slice none 0 0] := by kernel_rfl
end FxIceG
open FxIceG
abbrev CkD := Ad × Int × ByteArray × ByteArray × Int × Int × Bool × Bool × Sl UInt16 × Int × UInt8 × Bool × Bs
theorem Ent.ckParts {x : CkD} {L : List SA} : Ent (SA.dat x :: L) (SA.dat x.2.2.2.2.2.2.2.2.2.2.2.2 :: SA.dat x.2.2.2.2.2.2.2.2.1 :: L) := by
  obtain ⟨ad, now, user, key, cls, mth, pr, cand, more, at_, by_, plain, raw⟩ := x
  refine (Ent.rdss_sub (hs := Dat.g more) fun q hq => ?_).trans ((Ent.under _ ((Ent.rdss_sub (hs := Dat.g raw) fun q hq => ?_).trans (Ent.under _ Ent.drop))).trans Ent.swap)
  · show q ∈ Dat.g ad ++ ([] ++ ([] ++ ([] ++ ([] ++ ([] ++ ([] ++ ([] ++ (Dat.g more ++ ([] ++ ([] ++ ([] ++ Dat.g raw)))))))))))
    simp [hq]
  · show q ∈ Dat.g ad ++ ([] ++ ([] ++ ([] ++ ([] ++ ([] ++ ([] ++ ([] ++ (Dat.g more ++ ([] ++ ([] ++ ([] ++ Dat.g raw)))))))))))
    simp [hq]
def CkB (x : CkD) : Prop := x.2.2.1.size ≤ 140737488351232 ∧ x.2.2.2.1.size ≤ 140737488351232 ∧ x.2.2.2.2.2.2.2.2.2.2.2.2.l.length ≤ 140737488351232
/-- a statement's datagram, whatever it is -/
theorem bytesOf_any (x : CkD) (hx : CkB x) (L : List SA) :
    Fn Try.prog 10 [.agg (Dat.c x).toArray] (SA.dat x :: L) (fun v L' => ∃ a n cap b, v = .slice a n cap ∧ (b : List UInt8).length = n ∧ n ≤ 140737488351232 ∧ L' = SA.rds 1 (.slice a n cap) n (b.map v8) :: L) := by
  obtain ⟨⟨ip, port⟩, now, user, key, cls, mth, pr, cand, ⟨ma, mc, more⟩, at_, by_, plain, ⟨ra, rc, raw⟩⟩ := x
  obtain ⟨h1, h2, h3⟩ := hx
  cases plain with
  | true =>
    refine Fn.preE (Ent.ckParts.trans (Ent.under _ Ent.drop)) ((bytesOf_plain ip port now user key cls mth pr cand ma mc more at_ by_ ra rc raw L).mono ?_)
    rintro v L' ⟨rfl, rfl⟩
    exact ⟨_, Ent.under _ Ent.drop, ra, raw.length, rc, raw, rfl, rfl, h3, rfl⟩
  | false =>
    refine Fn.preE (Ent.ckParts.trans Ent.drop) ((bytesOf_made ip port now user key cls mth pr cand ma mc more at_ by_ ra rc raw h1 h2 L).mono ?_)
    rintro v L' ⟨a, cap, rfl, rfl⟩
    exact ⟨_, Ent.under _ Ent.drop, a, _, cap, _, rfl, rfl, by rw [addAt_len]; have := signP_len (m := msgP user cls mth pr cand more at_) rfl key; omega, rfl⟩
set_option maxHeartbeats 4000000 in
theorem guards_fn (name password : ByteArray) (hn : name.size ≤ 140737488351232) (hp : password.size ≤ 140737488351232) (ca : Option Addr) (cc : Nat) (cs : List CkD) (hcs : ∀ x ∈ cs, CkB x) (L : List SA) :
    Fn Try.prog 4 [.string name, .string password, .slice ca cs.length cc] (SA.dat (⟨ca, cc, cs⟩ : Sl CkD) :: L) (fun v L' => v = .bool true ∧ L' = SA.dat (⟨ca, cc, cs⟩ : Sl CkD) :: L) := by
  refine Fn.of (N := 112) Try.func4 rfl rfl ?_
  intro Xh
  refine TC.know (dat_cap (a := ca) (l := cs) inn) ?_
  rintro ⟨hc1, hc2, -⟩
  refine TC.seq ?_
  refine TC.region ?_
  refine TL.val rfl rfl rfl (Y.assign rfl rfl) ?_
  refine TL.nil ?_
  refine TQ.next ?_
  refine TC.seq ?_
  refine TC.seq ?_
  refine TC.region ?_
  refine TL.eff rfl rfl rfl (X.call rfl Try.func7 (by kernel_rfl) rfl rfl (Fn.preE (by repeat first | (with_reducible apply Ent.refl) | (apply Ent.cons; case h => first | (with_reducible (repeat first | apply Pull.here | apply Pull.there); done) | (repeat first | apply Pull.here | apply Pull.there))) (ice.awake_fn _))) ?_
  rintro _ _ ⟨rfl, rfl⟩
  refine TL.val rfl rfl rfl (Y.not rfl rfl) ?_
  refine TL.nil ?_
  refine TQ.next ?_
  refine TC.cond_f rfl ?_
  refine TC.skip ?_
  refine TQ.next ?_
  refine TC.seq ?_
  refine TC.region ?_
  refine TL.val rfl rfl rfl (Y.move rfl rfl) ?_
  refine TL.val rfl rfl rfl (Y.move rfl rfl) ?_
  refine TL.eff rfl rfl rfl (X.call rfl Try.func8 (by kernel_rfl) rfl rfl (Fn.preE (by repeat first | (with_reducible apply Ent.refl) | (apply Ent.cons; case h => first | (with_reducible (repeat first | apply Pull.here | apply Pull.there); done) | (repeat first | apply Pull.here | apply Pull.there))) (New_fn name password hn hp _))) ?_
  rintro _ _ ⟨b23, na23, nc23, pa23, pc23, rfl, rfl⟩
  refine TL.val rfl rfl rfl (Y.assign rfl rfl) ?_
  refine TL.nil ?_
  refine TQ.next ?_
  refine TC.seq ?_
  refine TC.seq ?_
  refine TC.region ?_
  refine TL.val rfl rfl rfl (Y.move rfl rfl) ?_
  refine TL.val rfl rfl rfl (Y.len rfl Try.underlying39 rfl) ?_
  refine TL.val rfl rfl rfl (Y.move rfl rfl) ?_
  refine TL.nil ?_
  refine TQ.next ?_
  refine TC.block ?_
  refine TC.loopF (ι := Nat × Option Addr × Nat × List Pr × Int) [6] (fun i => i.1 ≤ cs.length ∧ i.2.2.2.1.length ≤ 4) (fun i => [(26, some (vN i.1))]) (fun i => [SA.blk b23 (agC na23 (nmB name).length nc23 pa23 (bl password).length pc23 i.2.1 i.2.2.2.1.length i.2.2.1 i.2.2.2.2) 55, SA.owns 70 4 (.slice i.2.1 i.2.2.2.1.length i.2.2.1) i.2.2.2.1.length (Dat.cs i.2.2.2.1)]) (fun i => cs.length - i.1) ((0, none, 0, [], 0)) (⟨by omega, by show 0 ≤ 4; omega⟩) ⟨rfl, trivial⟩ (Pulls.cons pul (Pulls.cons pul Pulls.nil)) ?_
  rintro ⟨k, la, lc, l, clk⟩ ⟨hk, hl4⟩ F' L' rfl hL'
  simp only [List.cons_append, List.nil_append] at hL'
  subst hL'
  simp only at hk hl4 ⊢
  refine TC.seq ?_
  refine TC.region ?_
  refine TL.val rfl rfl rfl (Y.bin rfl rfl rfl (br_ltN)) ?_
  refine TL.nil ?_
  refine TQ.next ?_
  refine TC.seq ?_
  refine TC.cond rfl (fun c1 => ?_) (fun c1 => ?_)
  · try simp only [decide_eq_true_eq, decide_eq_false_iff_not, Bool.not_eq_true', Bool.not_eq_false', Bool.and_eq_true, Bool.or_eq_true, Nat.not_lt, Nat.not_le, beq_iff_eq, bne_iff_ne] at c1
    refine TC.skip ?_
    refine TQ.next ?_
    refine TC.seq ?_
    refine TC.block ?_
    refine TC.seq ?_
    refine TC.region ?_
    refine TL.val rfl rfl rfl (Y.move rfl rfl) ?_
    refine TL.val rfl rfl rfl (Y.assign rfl rfl) ?_
    refine TL.nil ?_
    refine TQ.next ?_
    refine TC.seq ?_
    refine TC.seq ?_
    refine TC.region ?_
    refine TL.val rfl rfl rfl (Y.move rfl rfl) ?_
    refine TL.val rfl rfl rfl (Y.bin rfl rfl rfl (br_geN (n := 30))) ?_
    refine TL.nil ?_
    refine TQ.next ?_
    refine TC.cond rfl (fun c2 => ?_) (fun c2 => ?_)
    · try simp only [decide_eq_true_eq, decide_eq_false_iff_not, Bool.not_eq_true', Bool.not_eq_false', Bool.and_eq_true, Bool.or_eq_true, Nat.not_lt, Nat.not_le, beq_iff_eq, bne_iff_ne] at c2
      refine TC.exit ?_
      refine TQ.then_exit ?_
      refine TQ.block_out rfl ?_
      refine TQ.then_exit ?_
      refine TQ.then_exit ?_
      refine TQ.block_exit ?_
      refine TQ.next ?_
      refine TC.seq ?_
      refine TC.region ?_
      refine TL.val rfl rfl rfl (Y.assign rfl rfl) ?_
      refine TL.nil ?_
      refine TQ.next ?_
      refine TC.ret ?_
      refine TQ.retE (res1 rfl rfl) ((by first | exact ⟨rfl, rfl⟩ | (refine ⟨?_, rfl⟩; exfalso; rcases hcase with ⟨he, hg⟩ | ⟨he, rfl⟩ <;> first | omega | (have h0 := hgk.1 hg; first | omega | (simp_all; done) | (simp_all; omega)) | (simp_all; done) | (simp_all; omega)))) ?_
      exact ett
    · try simp only [decide_eq_true_eq, decide_eq_false_iff_not, Bool.not_eq_true', Bool.not_eq_false', Bool.and_eq_true, Bool.or_eq_true, Nat.not_lt, Nat.not_le, beq_iff_eq, bne_iff_ne] at c2
      refine TC.skip ?_
      refine TQ.next ?_
      refine TC.seq ?_
      obtain ⟨x, hx, hxm⟩ := getS (l := cs) (i := k) (by omega)
      have hxb := hcs x hxm
      refine TC.know (dat_some (a := ca) (l := cs) inn (by omega)) ?_
      rintro ⟨mg, mo, rfl⟩
      refine TC.region ?_
      refine TL.val rfl rfl rfl (Y.move rfl rfl) ?_
      refine TL.val rfl rfl rfl (Y.move rfl rfl) ?_
      refine TL.val rfl rfl rfl (by first | exact Y.indexSlB rfl sl39 rfl rfl (by omega) nqq | exact Y.indexSl rfl sl39 rfl rfl (by omega) nqq) ?_
      refine TL.val rfl rfl rfl (Y.loadAgg rfl ag32 rfl (by first | exact Cels.datAt inn (by assumption) | exact Cels.full inn) (by first | rfl | ((try simp only [List.length_map, List.length_set, List.length_replicate]); omega))) ?_
      refine TL.as (.agg (Dat.c x).toArray) (by rfl) ?_
      refine TL.to ((Pull.ent (A := SA.dat (⟨some ⟨mg, mo, none⟩, cc, cs⟩ : Sl CkD)) pul).trans (Ent.elem hxm)) ?_
      refine TL.eff rfl rfl rfl (X.call rfl Try.func10 (by kernel_rfl) rfl rfl (Fn.preE (by repeat first | (with_reducible apply Ent.refl) | (apply Ent.cons; case h => first | (with_reducible (repeat first | apply Pull.here | apply Pull.there); done) | (repeat first | apply Pull.here | apply Pull.there))) (bytesOf_any x hxb _))) ?_
      rintro _ _ ⟨ba, bn, bc, b, rfl, hbn, hbl, rfl⟩
      refine TL.val rfl rfl rfl (Y.assign rfl rfl) ?_
      refine TL.nil ?_
      refine TQ.next ?_
      refine TC.seq ?_
      refine TC.region ?_
      refine TL.val rfl rfl rfl (Y.move rfl rfl) ?_
      refine TL.val rfl rfl rfl (Y.move rfl rfl) ?_
      refine TL.eff rfl rfl rfl (X.strB rfl Try.underlying9 Try.underlying30 Try.underlying5 rfl (by simp only [maxLen]; omega)) ?_
      rintro _ _ ⟨g39, c39, rfl, rfl⟩
      refine TL.eff rfl rfl rfl (X.call rfl Try.func12 (by kernel_rfl) rfl rfl (Fn.preE (by repeat first | (with_reducible apply Ent.refl) | (apply Ent.cons; case h => first | (with_reducible (repeat first | apply Pull.here | apply Pull.there); done) | (repeat first | apply Pull.here | apply Pull.there))) (refCheck_fn _ _ _ b hbn hbl _ _ _ (bl password) rfl hp _))) ?_
      rintro _ _ ⟨kc40, km40, kf40, ka40, kcap40, kl40, ke40, rfl, hC40, rfl⟩
      have hgk := goodK_iff hC40
      refine TL.val rfl rfl rfl (Y.move rfl rfl) ?_
      refine TL.val rfl rfl rfl (Y.extract rfl rfl rfl) ?_
      refine TL.val rfl rfl rfl (Y.extract rfl rfl rfl) ?_
      refine TL.eff rfl rfl rfl (X.alloc rfl zc43) ?_
      rintro _ _ ⟨b10, rfl, rfl⟩
      refine TL.eff0 rfl rfl (X.storeAll rfl (by kernel_rfl) (msgC_size _ _ _ _) rfl rfl (msg_one _ _ _ _ _ _) pul rfl) ?_
      rintro _ _ rfl
      refine TL.val rfl rfl rfl (Y.assign rfl rfl) ?_
      refine TL.nil ?_
      refine TQ.next ?_
      refine TC.seq ?_
      refine TC.region ?_
      refine TL.val rfl rfl rfl (Y.move rfl rfl) ?_
      refine TL.eff rfl rfl rfl (X.call rfl Try.func13 (by kernel_rfl) rfl rfl (Fn.preE (by repeat first | (with_reducible apply Ent.refl) | (apply Ent.cons; case h => first | (with_reducible (repeat first | apply Pull.here | apply Pull.there); done) | (repeat first | apply Pull.here | apply Pull.there))) (Selected_fn b23 na23 (nmB name).length nc23 pa23 (bl password).length pc23 la lc l clk _))) ?_
      rintro _ _ ⟨rfl, rfl⟩
      refine TL.val rfl rfl rfl (Y.move rfl rfl) ?_
      refine TL.val rfl rfl rfl (Y.extract rfl rfl rfl) ?_
      refine TL.val rfl rfl rfl (Y.extract rfl rfl rfl) ?_
      refine TL.eff rfl rfl rfl (X.alloc rfl zc28) ?_
      rintro _ _ ⟨b12, rfl, rfl⟩
      refine TL.eff0 rfl rfl (X.storeAll rfl (by kernel_rfl) (by rfl) rfl rfl (allOne (by rfl)) pul (by rfl)) ?_
      rintro _ _ rfl
      refine TL.val rfl rfl rfl (Y.assign rfl rfl) ?_
      refine TL.nil ?_
      refine TQ.next ?_
      refine TC.seq ?_
      refine TC.region ?_
      refine TL.val rfl rfl rfl (Y.move rfl rfl) ?_
      refine TL.eff rfl rfl rfl (X.call rfl Try.func14 (by kernel_rfl) rfl rfl (Fn.preE (by repeat first | (with_reducible apply Ent.refl) | (apply Ent.cons; case h => first | (with_reducible (repeat first | apply Pull.here | apply Pull.there); done) | (repeat first | apply Pull.here | apply Pull.there))) (Pairs_fn b23 na23 (nmB name).length nc23 pa23 (bl password).length pc23 la lc l clk (by omega) _))) ?_
      rintro _ _ ⟨a49, c49, rfl, rfl⟩
      refine TL.val rfl rfl rfl (Y.len rfl Try.underlying48 rfl) ?_
      refine TL.val rfl rfl rfl (Y.assign rfl rfl) ?_
      refine TL.nil ?_
      refine TQ.next ?_
      refine TC.seq ?_
      obtain ⟨⟨ip, port⟩, now, xr⟩ := x
      refine TC.draws 14 [SA.dat (⟨some ⟨mg, mo, none⟩, cc, cs⟩ : Sl CkD)] (by kernel_rfl) (by kernel_rfl) (by repeat first | exact holds_nil | refine holds_cons inn ?_) ?_
      refine TA.take 0 rfl rfl rfl rfl (by kernel_rfl) (by kernel_rfl) (by kernel_rfl) rfl (by kernel_rfl) (by kernel_rfl) (fun _ _ _ h => h) (Y.move rfl rfl) ?_
      refine TA.takeP 2 rfl rfl rfl rfl (by kernel_rfl) (by kernel_rfl) (by kernel_rfl) rfl (fun _ _ _ h => h) (Y.move rfl rfl) ?_
      refine TA.takeP 4 rfl rfl rfl rfl (by kernel_rfl) (by kernel_rfl) (by kernel_rfl) rfl (fun _ _ _ h => h) (Y.move rfl rfl) ?_
      refine TA.takeP 5 rfl rfl rfl rfl (by kernel_rfl) (by kernel_rfl) (by kernel_rfl) rfl (fun _ _ _ h => h) (Y.move rfl rfl) ?_
      refine TA.takeP 6 rfl rfl rfl rfl (by kernel_rfl) (by kernel_rfl) (by kernel_rfl) rfl (fun _ _ _ h => h) (by first | exact Y.indexSlB rfl sl39 rfl rfl (by omega) nqq | exact Y.indexSl rfl sl39 rfl rfl (by omega) nqq) ?_
      refine TA.takeP 7 rfl rfl rfl rfl (by kernel_rfl) (by kernel_rfl) (by kernel_rfl) rfl (fun _ _ _ h => h) (by first | exact Y.fieldAddrJ rfl fo32_0 rfl nqq | exact Y.fieldAddr rfl fo32_0 rfl nqq) ?_
      refine TA.take 8 rfl rfl rfl rfl (by kernel_rfl) (by kernel_rfl) (by kernel_rfl) rfl (by kernel_rfl) (by kernel_rfl) (fun _ _ _ h => h) (Y.loadAgg rfl ag28 rfl (Cels.pre (Cels.datAt (l := cs) inn hx) (l' := [v32 ip, v16 port]) ⟨_, rfl⟩) (by first | rfl | ((try simp only [List.length_map, List.length_set, List.length_replicate]); omega))) ?_
      refine TA.as (.agg #[v32 ip, v16 port]) (by rfl) ?_
      refine TA.takeP 9 rfl rfl rfl rfl (by kernel_rfl) (by kernel_rfl) (by kernel_rfl) rfl (fun _ _ _ h => h) (Y.move rfl rfl) ?_
      refine TA.takeP 10 rfl rfl rfl rfl (by kernel_rfl) (by kernel_rfl) (by kernel_rfl) rfl (fun _ _ _ h => h) (Y.move rfl rfl) ?_
      refine TA.takeP 11 rfl rfl rfl rfl (by kernel_rfl) (by kernel_rfl) (by kernel_rfl) rfl (fun _ _ _ h => h) (by first | exact Y.indexSlB rfl sl39 rfl rfl (by omega) nqq | exact Y.indexSl rfl sl39 rfl rfl (by omega) nqq) ?_
      refine TA.takeP 12 rfl rfl rfl rfl (by kernel_rfl) (by kernel_rfl) (by kernel_rfl) rfl (fun _ _ _ h => h) (by first | exact Y.fieldAddrJ rfl fo32_1 rfl nqq | exact Y.fieldAddr rfl fo32_1 rfl nqq) ?_
      refine TA.take 13 rfl rfl rfl rfl (by kernel_rfl) (by kernel_rfl) (by kernel_rfl) rfl (by kernel_rfl) (by kernel_rfl) (fun _ _ _ h => h) (Y.load rfl sc2 rfl celN) ?_
      refine TA.as (vI now) (by rfl) ?_
      refine TA.one 1 (by kernel_rfl) rfl rfl rfl rfl (X.lit rfl el30 rfl rfl rfl (by decide) rfl) ?_
      rintro _ _ ⟨g53, rfl, rfl⟩
      refine ⟨(Or.inr (by repeat first | exact holds_nil | refine holds_cons inn ?_)), ?_⟩
      refine TA.one 3 (by kernel_rfl) rfl rfl rfl rfl (X.appendS rfl el30 rfl pul rfl (by first | exact Src.owns Try.underlying30 inn | exact Src.rds Try.underlying30 inn | exact Src.reads (by assumption) Try.underlying30 inn) (by simp only [maxLen]; omega) (by omega)) ?_
      rintro _ _ ⟨a55, c55, rfl, rfl⟩
      refine ⟨(Or.inr (by repeat first | exact holds_nil | refine holds_cons inn ?_)), ?_⟩
      simp only [Nat.zero_add, List.nil_append]
      refine TA.to ((Pull.ent (A := SA.owns 5 1 (.slice a55 bn c55) bn (b.map v8)) pul).trans Ent.freeze) ?_
      refine TA.one 14 (by kernel_rfl) rfl rfl rfl rfl (X.call rfl Try.func9 (by kernel_rfl) rfl rfl (Fn.preE (by repeat first | (with_reducible apply Ent.refl) | (apply Ent.cons; case h => first | (with_reducible (repeat first | apply Pull.here | apply Pull.there); done) | (repeat first | apply Pull.here | apply Pull.there))) (Handle_any b23 na23 nc23 (nmB name) pa23 pc23 (bl password) la lc l clk a55 bn c55 b hbn hbl hp ip port now hl4 _))) ?_
      rintro _ _ ⟨oa, on, oc, e, la', lc', l', clk', rfl, hcase, hl4', rfl⟩
      refine ⟨(Or.inl (by kernel_rfl)), ?_⟩
      refine TA.takeP 15 rfl rfl rfl rfl (by kernel_rfl) (by kernel_rfl) (by kernel_rfl) rfl (fun _ _ _ h => h) (Y.move rfl rfl) ?_
      refine TA.takeP 16 rfl rfl rfl rfl (by kernel_rfl) (by kernel_rfl) (by kernel_rfl) rfl (fun _ _ _ h => h) (Y.extract rfl rfl rfl) ?_
      refine TA.takeP 17 rfl rfl rfl rfl (by kernel_rfl) (by kernel_rfl) (by kernel_rfl) rfl (fun _ _ _ h => h) (Y.extract rfl rfl rfl) ?_
      refine TA.takeP 18 rfl rfl rfl rfl (by kernel_rfl) (by kernel_rfl) (by kernel_rfl) rfl (fun _ _ _ h => h) (Y.assign rfl rfl) ?_
      refine TA.takeP 19 rfl rfl rfl rfl (by kernel_rfl) (by kernel_rfl) (by kernel_rfl) rfl (fun _ _ _ h => h) (Y.assign rfl rfl) ?_
      refine TA.done (by kernel_rfl) ?_
      refine TQ.next ?_
      refine TC.seq ?_
      refine TC.region ?_
      refine TL.val rfl rfl rfl (Y.move rfl rfl) ?_
      refine TL.eff rfl rfl rfl (X.call rfl Try.func13 (by kernel_rfl) rfl rfl (Fn.preE (by repeat first | (with_reducible apply Ent.refl) | (apply Ent.cons; case h => first | (with_reducible (repeat first | apply Pull.here | apply Pull.there); done) | (repeat first | apply Pull.here | apply Pull.there))) (Selected_fn b23 na23 (nmB name).length nc23 pa23 (bl password).length pc23 la' lc' l' clk' _))) ?_
      rintro _ _ ⟨rfl, rfl⟩
      refine TL.val rfl rfl rfl (Y.move rfl rfl) ?_
      refine TL.val rfl rfl rfl (Y.extract rfl rfl rfl) ?_
      refine TL.val rfl rfl rfl (Y.extract rfl rfl rfl) ?_
      refine TL.eff rfl rfl rfl (X.alloc rfl zc28) ?_
      rintro _ _ ⟨b17, rfl, rfl⟩
      refine TL.eff0 rfl rfl (X.storeAll rfl (by kernel_rfl) (by rfl) rfl rfl (allOne (by rfl)) pul (by rfl)) ?_
      rintro _ _ rfl
      refine TL.val rfl rfl rfl (Y.assign rfl rfl) ?_
      refine TL.nil ?_
      refine TQ.next ?_
      refine TC.seq ?_
      refine TC.region ?_
      refine TL.val rfl rfl rfl (Y.move rfl rfl) ?_
      refine TL.val rfl rfl rfl (Y.bin rfl rfl rfl (br_neN (n := 0))) ?_
      refine TL.val rfl rfl rfl (Y.move rfl rfl) ?_
      refine TL.case (fun g14_2 => ?_) (fun g14_2 => ?_)
      · try simp only [decide_eq_true_eq, decide_eq_false_iff_not, Bool.not_eq_true', Bool.not_eq_false', Nat.not_lt, Nat.not_le, beq_iff_eq, bne_iff_ne] at g14_2
        refine TL.not rfl rfl rfl ?_
        refine TL.not rfl rfl rfl ?_
        refine TL.val rfl rfl rfl (Y.pick_t rfl rfl rfl) ?_
        refine TL.val rfl rfl rfl (Y.move rfl rfl) ?_
        refine TL.valG rfl rfl rfl (Y.loadAgg rfl ag28 rfl (Cels.all (cs := #[v32 (sa l).1, v16 (sa l).2]) inn) (by first | rfl | ((try simp only [List.length_map, List.length_set, List.length_replicate]); omega))) ?_
        refine TL.as (.agg #[v32 (sa l).1, v16 (sa l).2]) (by rfl) ?_
        refine TL.valG rfl rfl rfl (Y.loadAgg rfl ag28 rfl (Cels.all (cs := #[v32 (sa l').1, v16 (sa l').2]) inn) (by first | rfl | ((try simp only [List.length_map, List.length_set, List.length_replicate]); omega))) ?_
        refine TL.as (.agg #[v32 (sa l').1, v16 (sa l').2]) (by rfl) ?_
        refine TL.valG rfl rfl rfl (Y.neSt rfl sf28 sp28 eg28 sn28 rfl rfl (FEq.cons sc26 rfl rfl (EqV.int Try.underlying26) (FEq.cons sc22 rfl rfl (EqV.int Try.underlying22) FEq.nil))) ?_
        refine TL.valG rfl rfl rfl (Y.move rfl rfl) ?_
        refine TL.case (fun g14_10 => ?_) (fun g14_10 => ?_)
        · try simp only [decide_eq_true_eq, decide_eq_false_iff_not, Bool.not_eq_true', Bool.not_eq_false', Nat.not_lt, Nat.not_le, beq_iff_eq, bne_iff_ne] at g14_10
          refine TL.not rfl rfl rfl ?_
          refine TL.not rfl rfl rfl ?_
          refine TL.not rfl rfl rfl ?_
          refine TL.valG rfl rfl rfl (Y.pick_t rfl rfl rfl) ?_
          refine TL.valG rfl rfl rfl (Y.move rfl rfl) ?_
          refine TL.not rfl rfl rfl ?_
          refine TL.not rfl rfl rfl ?_
          refine TL.not rfl rfl rfl ?_
          refine TL.not rfl rfl rfl ?_
          refine TL.not rfl rfl rfl ?_
          refine TL.valG rfl rfl rfl (Y.pick_t rfl rfl rfl) ?_
          refine TL.val rfl rfl rfl (Y.pick_t rfl rfl rfl) ?_
          refine TL.val rfl rfl rfl (Y.move rfl rfl) ?_
          refine TL.not rfl rfl rfl ?_
          refine TL.not rfl rfl rfl ?_
          refine TL.not rfl rfl rfl ?_
          refine TL.not rfl rfl rfl ?_
          refine TL.not rfl rfl rfl ?_
          refine TL.not rfl rfl rfl ?_
          refine TL.val rfl rfl rfl (Y.pick_t rfl rfl rfl) ?_
          refine TL.val rfl rfl rfl (Y.move rfl rfl) ?_
          refine TL.not rfl rfl rfl ?_
          refine TL.not rfl rfl rfl ?_
          refine TL.not rfl rfl rfl ?_
          refine TL.not rfl rfl rfl ?_
          refine TL.val rfl rfl rfl (Y.pick_t rfl rfl rfl) ?_
          refine TL.nil ?_
          refine TQ.next ?_
          refine TC.cond_t rfl ?_
          refine TC.seq ?_
          refine TC.region ?_
          refine TL.val rfl rfl rfl (Y.assign rfl rfl) ?_
          refine TL.nil ?_
          refine TQ.next ?_
          refine TC.ret ?_
          refine TQ.block_ret ?_
          refine TQ.then_ret ?_
          refine TQ.then_ret ?_
          refine TQ.block_ret ?_
          refine TQ.then_ret ?_
          refine TQ.retE (res1 rfl rfl) ((by first | exact ⟨rfl, rfl⟩ | (refine ⟨?_, rfl⟩; exfalso; rcases hcase with ⟨he, hg⟩ | ⟨he, rfl⟩ <;> first | omega | (have h0 := hgk.1 hg; first | omega | (simp_all; done) | (simp_all; omega)) | (simp_all; done) | (simp_all; omega)))) ?_
          exact ett
        · try simp only [decide_eq_true_eq, decide_eq_false_iff_not, Bool.not_eq_true', Bool.not_eq_false', Nat.not_lt, Nat.not_le, beq_iff_eq, bne_iff_ne] at g14_10
          refine TL.valG rfl rfl rfl (Y.move rfl rfl) ?_
          refine TL.valG rfl rfl rfl (Y.move rfl rfl) ?_
          refine TL.valG rfl rfl rfl (Y.neBool rfl Try.underlying4 rfl rfl) ?_
          refine TL.valG rfl rfl rfl (Y.pick_f rfl rfl rfl) ?_
          refine TL.valG rfl rfl rfl (Y.move rfl rfl) ?_
          refine TL.case (fun g14_15 => ?_) (fun g14_15 => ?_)
          · try simp only [decide_eq_true_eq, decide_eq_false_iff_not, Bool.not_eq_true', Bool.not_eq_false', Nat.not_lt, Nat.not_le, beq_iff_eq, bne_iff_ne] at g14_15
            refine TL.not rfl rfl rfl ?_
            refine TL.not rfl rfl rfl ?_
            refine TL.not rfl rfl rfl ?_
            refine TL.not rfl rfl rfl ?_
            refine TL.not rfl rfl rfl ?_
            refine TL.valG rfl rfl rfl (Y.pick_t rfl rfl rfl) ?_
            refine TL.val rfl rfl rfl (Y.pick_t rfl rfl rfl) ?_
            refine TL.val rfl rfl rfl (Y.move rfl rfl) ?_
            refine TL.not rfl rfl rfl ?_
            refine TL.not rfl rfl rfl ?_
            refine TL.not rfl rfl rfl ?_
            refine TL.not rfl rfl rfl ?_
            refine TL.not rfl rfl rfl ?_
            refine TL.not rfl rfl rfl ?_
            refine TL.val rfl rfl rfl (Y.pick_t rfl rfl rfl) ?_
            refine TL.val rfl rfl rfl (Y.move rfl rfl) ?_
            refine TL.not rfl rfl rfl ?_
            refine TL.not rfl rfl rfl ?_
            refine TL.not rfl rfl rfl ?_
            refine TL.not rfl rfl rfl ?_
            refine TL.val rfl rfl rfl (Y.pick_t rfl rfl rfl) ?_
            refine TL.nil ?_
            refine TQ.next ?_
            refine TC.cond_t rfl ?_
            refine TC.seq ?_
            refine TC.region ?_
            refine TL.val rfl rfl rfl (Y.assign rfl rfl) ?_
            refine TL.nil ?_
            refine TQ.next ?_
            refine TC.ret ?_
            refine TQ.block_ret ?_
            refine TQ.then_ret ?_
            refine TQ.then_ret ?_
            refine TQ.block_ret ?_
            refine TQ.then_ret ?_
            refine TQ.retE (res1 rfl rfl) ((by first | exact ⟨rfl, rfl⟩ | (refine ⟨?_, rfl⟩; exfalso; rcases hcase with ⟨he, hg⟩ | ⟨he, rfl⟩ <;> first | omega | (have h0 := hgk.1 hg; first | omega | (simp_all; done) | (simp_all; omega)) | (simp_all; done) | (simp_all; omega)))) ?_
            exact ett
          · try simp only [decide_eq_true_eq, decide_eq_false_iff_not, Bool.not_eq_true', Bool.not_eq_false', Nat.not_lt, Nat.not_le, beq_iff_eq, bne_iff_ne] at g14_15
            refine TL.valG rfl rfl rfl (Y.move rfl rfl) ?_
            refine TL.effG rfl rfl rfl (X.call rfl Try.func14 (by kernel_rfl) rfl rfl (Fn.preE (by repeat first | (with_reducible apply Ent.refl) | (apply Ent.cons; case h => first | (with_reducible (repeat first | apply Pull.here | apply Pull.there); done) | (repeat first | apply Pull.here | apply Pull.there))) (Pairs_fn b23 na23 (nmB name).length nc23 pa23 (bl password).length pc23 la' lc' l' clk' (by omega) _))) ?_
            rintro _ _ ⟨a91, c91, rfl, rfl⟩
            refine TL.valG rfl rfl rfl (Y.len rfl Try.underlying48 rfl) ?_
            refine TL.valG rfl rfl rfl (Y.move rfl rfl) ?_
            refine TL.valG rfl rfl rfl (Y.bin rfl rfl rfl (br_neN)) ?_
            refine TL.valG rfl rfl rfl (Y.pick_f rfl rfl rfl) ?_
            refine TL.val rfl rfl rfl (Y.pick_t rfl rfl rfl) ?_
            refine TL.val rfl rfl rfl (Y.move rfl rfl) ?_
            refine TL.case (fun g14_23 => ?_) (fun g14_23 => ?_)
            · try simp only [decide_eq_true_eq, decide_eq_false_iff_not, Bool.not_eq_true', Bool.not_eq_false', Nat.not_lt, Nat.not_le, beq_iff_eq, bne_iff_ne] at g14_23
              refine TL.not rfl rfl rfl ?_
              refine TL.not rfl rfl rfl ?_
              refine TL.not rfl rfl rfl ?_
              refine TL.not rfl rfl rfl ?_
              refine TL.not rfl rfl rfl ?_
              refine TL.not rfl rfl rfl ?_
              refine TL.val rfl rfl rfl (Y.pick_t rfl rfl rfl) ?_
              refine TL.val rfl rfl rfl (Y.move rfl rfl) ?_
              refine TL.not rfl rfl rfl ?_
              refine TL.not rfl rfl rfl ?_
              refine TL.not rfl rfl rfl ?_
              refine TL.not rfl rfl rfl ?_
              refine TL.val rfl rfl rfl (Y.pick_t rfl rfl rfl) ?_
              refine TL.nil ?_
              refine TQ.next ?_
              refine TC.cond_t rfl ?_
              refine TC.seq ?_
              refine TC.region ?_
              refine TL.val rfl rfl rfl (Y.assign rfl rfl) ?_
              refine TL.nil ?_
              refine TQ.next ?_
              refine TC.ret ?_
              refine TQ.block_ret ?_
              refine TQ.then_ret ?_
              refine TQ.then_ret ?_
              refine TQ.block_ret ?_
              refine TQ.then_ret ?_
              refine TQ.retE (res1 rfl rfl) ((by first | exact ⟨rfl, rfl⟩ | (refine ⟨?_, rfl⟩; exfalso; rcases hcase with ⟨he, hg⟩ | ⟨he, rfl⟩ <;> first | omega | (have h0 := hgk.1 hg; first | omega | (simp_all; done) | (simp_all; omega)) | (simp_all; done) | (simp_all; omega)))) ?_
              exact ett
            · try simp only [decide_eq_true_eq, decide_eq_false_iff_not, Bool.not_eq_true', Bool.not_eq_false', Nat.not_lt, Nat.not_le, beq_iff_eq, bne_iff_ne] at g14_23
              refine TL.valG rfl rfl rfl (Y.move rfl rfl) ?_
              refine TL.valG rfl rfl rfl (Y.bin rfl rfl rfl (br_neN (n := 0))) ?_
              refine TL.valG rfl rfl rfl (Y.move rfl rfl) ?_
              refine TL.case (fun g14_26 => ?_) (fun g14_26 => ?_)
              · try simp only [decide_eq_true_eq, decide_eq_false_iff_not, Bool.not_eq_true', Bool.not_eq_false', Nat.not_lt, Nat.not_le, beq_iff_eq, bne_iff_ne] at g14_26
                refine TL.valG rfl rfl rfl (Y.move rfl rfl) ?_
                refine TL.valG rfl rfl rfl (Y.bin rfl rfl rfl (br_eqN (n := 0))) ?_
                refine TL.valG rfl rfl rfl (Y.pick_t rfl rfl rfl) ?_
                refine TL.val rfl rfl rfl (Y.pick_f rfl rfl rfl) ?_
                refine TL.val rfl rfl rfl (Y.move rfl rfl) ?_
                refine TL.case (fun g14_31 => ?_) (fun g14_31 => ?_)
                · try simp only [decide_eq_true_eq, decide_eq_false_iff_not, Bool.not_eq_true', Bool.not_eq_false', Nat.not_lt, Nat.not_le, beq_iff_eq, bne_iff_ne] at g14_31
                  refine TL.not rfl rfl rfl ?_
                  refine TL.not rfl rfl rfl ?_
                  refine TL.not rfl rfl rfl ?_
                  refine TL.not rfl rfl rfl ?_
                  refine TL.val rfl rfl rfl (Y.pick_t rfl rfl rfl) ?_
                  refine TL.nil ?_
                  refine TQ.next ?_
                  refine TC.cond_t rfl ?_
                  refine TC.seq ?_
                  refine TC.region ?_
                  refine TL.val rfl rfl rfl (Y.assign rfl rfl) ?_
                  refine TL.nil ?_
                  refine TQ.next ?_
                  refine TC.ret ?_
                  refine TQ.block_ret ?_
                  refine TQ.then_ret ?_
                  refine TQ.then_ret ?_
                  refine TQ.block_ret ?_
                  refine TQ.then_ret ?_
                  refine TQ.retE (res1 rfl rfl) ((by first | exact ⟨rfl, rfl⟩ | (refine ⟨?_, rfl⟩; exfalso; rcases hcase with ⟨he, hg⟩ | ⟨he, rfl⟩ <;> first | omega | (have h0 := hgk.1 hg; first | omega | (simp_all; done) | (simp_all; omega)) | (simp_all; done) | (simp_all; omega)))) ?_
                  exact ett
                · try simp only [decide_eq_true_eq, decide_eq_false_iff_not, Bool.not_eq_true', Bool.not_eq_false', Nat.not_lt, Nat.not_le, beq_iff_eq, bne_iff_ne] at g14_31
                  refine TL.valG rfl rfl rfl (Y.move rfl rfl) ?_
                  refine TL.effG rfl rfl rfl (X.call rfl Try.func14 (by kernel_rfl) rfl rfl (Fn.preE (by repeat first | (with_reducible apply Ent.refl) | (apply Ent.cons; case h => first | (with_reducible (repeat first | apply Pull.here | apply Pull.there); done) | (repeat first | apply Pull.here | apply Pull.there))) (Pairs_fn b23 na23 (nmB name).length nc23 pa23 (bl password).length pc23 la' lc' l' clk' (by omega) _))) ?_
                  rintro _ _ ⟨a107, c107, rfl, rfl⟩
                  refine TL.valG rfl rfl rfl (Y.len rfl Try.underlying48 rfl) ?_
                  refine TL.valG rfl rfl rfl (Y.bin rfl rfl rfl (br_gtN (n := 4))) ?_
                  refine TL.val rfl rfl rfl (Y.pick_f rfl rfl rfl) ?_
                  refine TL.nil ?_
                  refine TQ.next ?_
                  refine TC.cond rfl (fun c3 => ?_) (fun c3 => ?_)
                  · try simp only [decide_eq_true_eq, decide_eq_false_iff_not, Bool.not_eq_true', Bool.not_eq_false', Bool.and_eq_true, Bool.or_eq_true, Nat.not_lt, Nat.not_le, beq_iff_eq, bne_iff_ne] at c3
                    exfalso
                    rcases hcase with ⟨he, hg⟩ | ⟨he, rfl⟩
                    · have h0 := hgk.1 hg
                      first | omega | (simp_all; done) | (simp_all; omega)
                    · first | omega | (simp_all; done) | (simp_all; omega) --stop
                  · try simp only [decide_eq_true_eq, decide_eq_false_iff_not, Bool.not_eq_true', Bool.not_eq_false', Bool.and_eq_true, Bool.or_eq_true, Nat.not_lt, Nat.not_le, beq_iff_eq, bne_iff_ne] at c3
                    refine TC.skip ?_
                    refine TQ.block_normal ?_
                    refine TQ.next ?_
                    refine TC.region ?_
                    refine TL.val rfl rfl rfl (Y.bin rfl rfl rfl (br_addN (n := 1) (by omega))) ?_
                    refine TL.val rfl rfl rfl (Y.move rfl rfl) ?_
                    refine TL.nil ?_
                    refine TQ.loopF ((k + 1, la', lc', l', clk')) (⟨by show k + 1 ≤ _; omega, hl4'⟩) ((by show cs.length - (k + 1) < cs.length - k; omega)) ⟨rfl, trivial⟩ (by (repeat first | apply Grow.refl | apply Grow.step | apply Grow.app)) ?_ ?_ ?_
                    · kernel_rfl
                    · rfl
                    · simp only [List.cons_append, List.nil_append]
                      exact ett
              · try simp only [decide_eq_true_eq, decide_eq_false_iff_not, Bool.not_eq_true', Bool.not_eq_false', Nat.not_lt, Nat.not_le, beq_iff_eq, bne_iff_ne] at g14_26
                refine TL.not rfl rfl rfl ?_
                refine TL.not rfl rfl rfl ?_
                refine TL.valG rfl rfl rfl (Y.pick_f rfl rfl rfl) ?_
                refine TL.val rfl rfl rfl (Y.pick_f rfl rfl rfl) ?_
                refine TL.val rfl rfl rfl (Y.move rfl rfl) ?_
                refine TL.valG rfl rfl rfl (Y.move rfl rfl) ?_
                refine TL.effG rfl rfl rfl (X.call rfl Try.func14 (by kernel_rfl) rfl rfl (Fn.preE (by repeat first | (with_reducible apply Ent.refl) | (apply Ent.cons; case h => first | (with_reducible (repeat first | apply Pull.here | apply Pull.there); done) | (repeat first | apply Pull.here | apply Pull.there))) (Pairs_fn b23 na23 (nmB name).length nc23 pa23 (bl password).length pc23 la' lc' l' clk' (by omega) _))) ?_
                rintro _ _ ⟨a107, c107, rfl, rfl⟩
                refine TL.valG rfl rfl rfl (Y.len rfl Try.underlying48 rfl) ?_
                refine TL.valG rfl rfl rfl (Y.bin rfl rfl rfl (br_gtN (n := 4))) ?_
                refine TL.val rfl rfl rfl (Y.pick_f rfl rfl rfl) ?_
                refine TL.nil ?_
                refine TQ.next ?_
                refine TC.cond rfl (fun c3 => ?_) (fun c3 => ?_)
                · try simp only [decide_eq_true_eq, decide_eq_false_iff_not, Bool.not_eq_true', Bool.not_eq_false', Bool.and_eq_true, Bool.or_eq_true, Nat.not_lt, Nat.not_le, beq_iff_eq, bne_iff_ne] at c3
                  exfalso
                  rcases hcase with ⟨he, hg⟩ | ⟨he, rfl⟩
                  · have h0 := hgk.1 hg
                    first | omega | (simp_all; done) | (simp_all; omega)
                  · first | omega | (simp_all; done) | (simp_all; omega) --stop
                · try simp only [decide_eq_true_eq, decide_eq_false_iff_not, Bool.not_eq_true', Bool.not_eq_false', Bool.and_eq_true, Bool.or_eq_true, Nat.not_lt, Nat.not_le, beq_iff_eq, bne_iff_ne] at c3
                  refine TC.skip ?_
                  refine TQ.block_normal ?_
                  refine TQ.next ?_
                  refine TC.region ?_
                  refine TL.val rfl rfl rfl (Y.bin rfl rfl rfl (br_addN (n := 1) (by omega))) ?_
                  refine TL.val rfl rfl rfl (Y.move rfl rfl) ?_
                  refine TL.nil ?_
                  refine TQ.loopF ((k + 1, la', lc', l', clk')) (⟨by show k + 1 ≤ _; omega, hl4'⟩) ((by show cs.length - (k + 1) < cs.length - k; omega)) ⟨rfl, trivial⟩ (by (repeat first | apply Grow.refl | apply Grow.step | apply Grow.app)) ?_ ?_ ?_
                  · kernel_rfl
                  · rfl
                  · simp only [List.cons_append, List.nil_append]
                    exact ett
      · try simp only [decide_eq_true_eq, decide_eq_false_iff_not, Bool.not_eq_true', Bool.not_eq_false', Nat.not_lt, Nat.not_le, beq_iff_eq, bne_iff_ne] at g14_2
        refine TL.valG rfl rfl rfl (Y.move rfl rfl) ?_
        refine TL.valG rfl rfl rfl (Y.bin rfl rfl rfl (br_neN (n := 0))) ?_
        refine TL.val rfl rfl rfl (Y.pick_f rfl rfl rfl) ?_
        refine TL.val rfl rfl rfl (Y.move rfl rfl) ?_
        refine TL.case (fun g14_6 => ?_) (fun g14_6 => ?_)
        · try simp only [decide_eq_true_eq, decide_eq_false_iff_not, Bool.not_eq_true', Bool.not_eq_false', Nat.not_lt, Nat.not_le, beq_iff_eq, bne_iff_ne] at g14_6
          refine TL.valG rfl rfl rfl (Y.loadAgg rfl ag28 rfl (Cels.all (cs := #[v32 (sa l).1, v16 (sa l).2]) inn) (by first | rfl | ((try simp only [List.length_map, List.length_set, List.length_replicate]); omega))) ?_
          refine TL.as (.agg #[v32 (sa l).1, v16 (sa l).2]) (by rfl) ?_
          refine TL.valG rfl rfl rfl (Y.loadAgg rfl ag28 rfl (Cels.all (cs := #[v32 (sa l').1, v16 (sa l').2]) inn) (by first | rfl | ((try simp only [List.length_map, List.length_set, List.length_replicate]); omega))) ?_
          refine TL.as (.agg #[v32 (sa l').1, v16 (sa l').2]) (by rfl) ?_
          refine TL.valG rfl rfl rfl (Y.neSt rfl sf28 sp28 eg28 sn28 rfl rfl (FEq.cons sc26 rfl rfl (EqV.int Try.underlying26) (FEq.cons sc22 rfl rfl (EqV.int Try.underlying22) FEq.nil))) ?_
          refine TL.valG rfl rfl rfl (Y.move rfl rfl) ?_
          refine TL.case (fun g14_10 => ?_) (fun g14_10 => ?_)
          · try simp only [decide_eq_true_eq, decide_eq_false_iff_not, Bool.not_eq_true', Bool.not_eq_false', Nat.not_lt, Nat.not_le, beq_iff_eq, bne_iff_ne] at g14_10
            refine TL.not rfl rfl rfl ?_
            refine TL.not rfl rfl rfl ?_
            refine TL.not rfl rfl rfl ?_
            refine TL.valG rfl rfl rfl (Y.pick_t rfl rfl rfl) ?_
            refine TL.valG rfl rfl rfl (Y.move rfl rfl) ?_
            refine TL.not rfl rfl rfl ?_
            refine TL.not rfl rfl rfl ?_
            refine TL.not rfl rfl rfl ?_
            refine TL.not rfl rfl rfl ?_
            refine TL.not rfl rfl rfl ?_
            refine TL.valG rfl rfl rfl (Y.pick_t rfl rfl rfl) ?_
            refine TL.val rfl rfl rfl (Y.pick_t rfl rfl rfl) ?_
            refine TL.val rfl rfl rfl (Y.move rfl rfl) ?_
            refine TL.not rfl rfl rfl ?_
            refine TL.not rfl rfl rfl ?_
            refine TL.not rfl rfl rfl ?_
            refine TL.not rfl rfl rfl ?_
            refine TL.not rfl rfl rfl ?_
            refine TL.not rfl rfl rfl ?_
            refine TL.val rfl rfl rfl (Y.pick_t rfl rfl rfl) ?_
            refine TL.val rfl rfl rfl (Y.move rfl rfl) ?_
            refine TL.not rfl rfl rfl ?_
            refine TL.not rfl rfl rfl ?_
            refine TL.not rfl rfl rfl ?_
            refine TL.not rfl rfl rfl ?_
            refine TL.val rfl rfl rfl (Y.pick_t rfl rfl rfl) ?_
            refine TL.nil ?_
            refine TQ.next ?_
            refine TC.cond_t rfl ?_
            refine TC.seq ?_
            refine TC.region ?_
            refine TL.val rfl rfl rfl (Y.assign rfl rfl) ?_
            refine TL.nil ?_
            refine TQ.next ?_
            refine TC.ret ?_
            refine TQ.block_ret ?_
            refine TQ.then_ret ?_
            refine TQ.then_ret ?_
            refine TQ.block_ret ?_
            refine TQ.then_ret ?_
            refine TQ.retE (res1 rfl rfl) ((by first | exact ⟨rfl, rfl⟩ | (refine ⟨?_, rfl⟩; exfalso; rcases hcase with ⟨he, hg⟩ | ⟨he, rfl⟩ <;> first | omega | (have h0 := hgk.1 hg; first | omega | (simp_all; done) | (simp_all; omega)) | (simp_all; done) | (simp_all; omega)))) ?_
            exact ett
          · try simp only [decide_eq_true_eq, decide_eq_false_iff_not, Bool.not_eq_true', Bool.not_eq_false', Nat.not_lt, Nat.not_le, beq_iff_eq, bne_iff_ne] at g14_10
            refine TL.valG rfl rfl rfl (Y.move rfl rfl) ?_
            refine TL.valG rfl rfl rfl (Y.move rfl rfl) ?_
            refine TL.valG rfl rfl rfl (Y.neBool rfl Try.underlying4 rfl rfl) ?_
            refine TL.valG rfl rfl rfl (Y.pick_f rfl rfl rfl) ?_
            refine TL.valG rfl rfl rfl (Y.move rfl rfl) ?_
            refine TL.case (fun g14_15 => ?_) (fun g14_15 => ?_)
            · try simp only [decide_eq_true_eq, decide_eq_false_iff_not, Bool.not_eq_true', Bool.not_eq_false', Nat.not_lt, Nat.not_le, beq_iff_eq, bne_iff_ne] at g14_15
              refine TL.not rfl rfl rfl ?_
              refine TL.not rfl rfl rfl ?_
              refine TL.not rfl rfl rfl ?_
              refine TL.not rfl rfl rfl ?_
              refine TL.not rfl rfl rfl ?_
              refine TL.valG rfl rfl rfl (Y.pick_t rfl rfl rfl) ?_
              refine TL.val rfl rfl rfl (Y.pick_t rfl rfl rfl) ?_
              refine TL.val rfl rfl rfl (Y.move rfl rfl) ?_
              refine TL.not rfl rfl rfl ?_
              refine TL.not rfl rfl rfl ?_
              refine TL.not rfl rfl rfl ?_
              refine TL.not rfl rfl rfl ?_
              refine TL.not rfl rfl rfl ?_
              refine TL.not rfl rfl rfl ?_
              refine TL.val rfl rfl rfl (Y.pick_t rfl rfl rfl) ?_
              refine TL.val rfl rfl rfl (Y.move rfl rfl) ?_
              refine TL.not rfl rfl rfl ?_
              refine TL.not rfl rfl rfl ?_
              refine TL.not rfl rfl rfl ?_
              refine TL.not rfl rfl rfl ?_
              refine TL.val rfl rfl rfl (Y.pick_t rfl rfl rfl) ?_
              refine TL.nil ?_
              refine TQ.next ?_
              refine TC.cond_t rfl ?_
              refine TC.seq ?_
              refine TC.region ?_
              refine TL.val rfl rfl rfl (Y.assign rfl rfl) ?_
              refine TL.nil ?_
              refine TQ.next ?_
              refine TC.ret ?_
              refine TQ.block_ret ?_
              refine TQ.then_ret ?_
              refine TQ.then_ret ?_
              refine TQ.block_ret ?_
              refine TQ.then_ret ?_
              refine TQ.retE (res1 rfl rfl) ((by first | exact ⟨rfl, rfl⟩ | (refine ⟨?_, rfl⟩; exfalso; rcases hcase with ⟨he, hg⟩ | ⟨he, rfl⟩ <;> first | omega | (have h0 := hgk.1 hg; first | omega | (simp_all; done) | (simp_all; omega)) | (simp_all; done) | (simp_all; omega)))) ?_
              exact ett
            · try simp only [decide_eq_true_eq, decide_eq_false_iff_not, Bool.not_eq_true', Bool.not_eq_false', Nat.not_lt, Nat.not_le, beq_iff_eq, bne_iff_ne] at g14_15
              refine TL.valG rfl rfl rfl (Y.move rfl rfl) ?_
              refine TL.effG rfl rfl rfl (X.call rfl Try.func14 (by kernel_rfl) rfl rfl (Fn.preE (by repeat first | (with_reducible apply Ent.refl) | (apply Ent.cons; case h => first | (with_reducible (repeat first | apply Pull.here | apply Pull.there); done) | (repeat first | apply Pull.here | apply Pull.there))) (Pairs_fn b23 na23 (nmB name).length nc23 pa23 (bl password).length pc23 la' lc' l' clk' (by omega) _))) ?_
              rintro _ _ ⟨a91, c91, rfl, rfl⟩
              refine TL.valG rfl rfl rfl (Y.len rfl Try.underlying48 rfl) ?_
              refine TL.valG rfl rfl rfl (Y.move rfl rfl) ?_
              refine TL.valG rfl rfl rfl (Y.bin rfl rfl rfl (br_neN)) ?_
              refine TL.valG rfl rfl rfl (Y.pick_f rfl rfl rfl) ?_
              refine TL.val rfl rfl rfl (Y.pick_t rfl rfl rfl) ?_
              refine TL.val rfl rfl rfl (Y.move rfl rfl) ?_
              refine TL.case (fun g14_23 => ?_) (fun g14_23 => ?_)
              · try simp only [decide_eq_true_eq, decide_eq_false_iff_not, Bool.not_eq_true', Bool.not_eq_false', Nat.not_lt, Nat.not_le, beq_iff_eq, bne_iff_ne] at g14_23
                refine TL.not rfl rfl rfl ?_
                refine TL.not rfl rfl rfl ?_
                refine TL.not rfl rfl rfl ?_
                refine TL.not rfl rfl rfl ?_
                refine TL.not rfl rfl rfl ?_
                refine TL.not rfl rfl rfl ?_
                refine TL.val rfl rfl rfl (Y.pick_t rfl rfl rfl) ?_
                refine TL.val rfl rfl rfl (Y.move rfl rfl) ?_
                refine TL.not rfl rfl rfl ?_
                refine TL.not rfl rfl rfl ?_
                refine TL.not rfl rfl rfl ?_
                refine TL.not rfl rfl rfl ?_
                refine TL.val rfl rfl rfl (Y.pick_t rfl rfl rfl) ?_
                refine TL.nil ?_
                refine TQ.next ?_
                refine TC.cond_t rfl ?_
                refine TC.seq ?_
                refine TC.region ?_
                refine TL.val rfl rfl rfl (Y.assign rfl rfl) ?_
                refine TL.nil ?_
                refine TQ.next ?_
                refine TC.ret ?_
                refine TQ.block_ret ?_
                refine TQ.then_ret ?_
                refine TQ.then_ret ?_
                refine TQ.block_ret ?_
                refine TQ.then_ret ?_
                refine TQ.retE (res1 rfl rfl) ((by first | exact ⟨rfl, rfl⟩ | (refine ⟨?_, rfl⟩; exfalso; rcases hcase with ⟨he, hg⟩ | ⟨he, rfl⟩ <;> first | omega | (have h0 := hgk.1 hg; first | omega | (simp_all; done) | (simp_all; omega)) | (simp_all; done) | (simp_all; omega)))) ?_
                exact ett
              · try simp only [decide_eq_true_eq, decide_eq_false_iff_not, Bool.not_eq_true', Bool.not_eq_false', Nat.not_lt, Nat.not_le, beq_iff_eq, bne_iff_ne] at g14_23
                refine TL.valG rfl rfl rfl (Y.move rfl rfl) ?_
                refine TL.valG rfl rfl rfl (Y.bin rfl rfl rfl (br_neN (n := 0))) ?_
                refine TL.valG rfl rfl rfl (Y.move rfl rfl) ?_
                refine TL.case (fun g14_26 => ?_) (fun g14_26 => ?_)
                · try simp only [decide_eq_true_eq, decide_eq_false_iff_not, Bool.not_eq_true', Bool.not_eq_false', Nat.not_lt, Nat.not_le, beq_iff_eq, bne_iff_ne] at g14_26
                  refine TL.valG rfl rfl rfl (Y.move rfl rfl) ?_
                  refine TL.valG rfl rfl rfl (Y.bin rfl rfl rfl (br_eqN (n := 0))) ?_
                  refine TL.valG rfl rfl rfl (Y.pick_t rfl rfl rfl) ?_
                  refine TL.val rfl rfl rfl (Y.pick_f rfl rfl rfl) ?_
                  refine TL.val rfl rfl rfl (Y.move rfl rfl) ?_
                  refine TL.case (fun g14_31 => ?_) (fun g14_31 => ?_)
                  · try simp only [decide_eq_true_eq, decide_eq_false_iff_not, Bool.not_eq_true', Bool.not_eq_false', Nat.not_lt, Nat.not_le, beq_iff_eq, bne_iff_ne] at g14_31
                    refine TL.not rfl rfl rfl ?_
                    refine TL.not rfl rfl rfl ?_
                    refine TL.not rfl rfl rfl ?_
                    refine TL.not rfl rfl rfl ?_
                    refine TL.val rfl rfl rfl (Y.pick_t rfl rfl rfl) ?_
                    refine TL.nil ?_
                    refine TQ.next ?_
                    refine TC.cond_t rfl ?_
                    refine TC.seq ?_
                    refine TC.region ?_
                    refine TL.val rfl rfl rfl (Y.assign rfl rfl) ?_
                    refine TL.nil ?_
                    refine TQ.next ?_
                    refine TC.ret ?_
                    refine TQ.block_ret ?_
                    refine TQ.then_ret ?_
                    refine TQ.then_ret ?_
                    refine TQ.block_ret ?_
                    refine TQ.then_ret ?_
                    refine TQ.retE (res1 rfl rfl) ((by first | exact ⟨rfl, rfl⟩ | (refine ⟨?_, rfl⟩; exfalso; rcases hcase with ⟨he, hg⟩ | ⟨he, rfl⟩ <;> first | omega | (have h0 := hgk.1 hg; first | omega | (simp_all; done) | (simp_all; omega)) | (simp_all; done) | (simp_all; omega)))) ?_
                    exact ett
                  · try simp only [decide_eq_true_eq, decide_eq_false_iff_not, Bool.not_eq_true', Bool.not_eq_false', Nat.not_lt, Nat.not_le, beq_iff_eq, bne_iff_ne] at g14_31
                    refine TL.valG rfl rfl rfl (Y.move rfl rfl) ?_
                    refine TL.effG rfl rfl rfl (X.call rfl Try.func14 (by kernel_rfl) rfl rfl (Fn.preE (by repeat first | (with_reducible apply Ent.refl) | (apply Ent.cons; case h => first | (with_reducible (repeat first | apply Pull.here | apply Pull.there); done) | (repeat first | apply Pull.here | apply Pull.there))) (Pairs_fn b23 na23 (nmB name).length nc23 pa23 (bl password).length pc23 la' lc' l' clk' (by omega) _))) ?_
                    rintro _ _ ⟨a107, c107, rfl, rfl⟩
                    refine TL.valG rfl rfl rfl (Y.len rfl Try.underlying48 rfl) ?_
                    refine TL.valG rfl rfl rfl (Y.bin rfl rfl rfl (br_gtN (n := 4))) ?_
                    refine TL.val rfl rfl rfl (Y.pick_f rfl rfl rfl) ?_
                    refine TL.nil ?_
                    refine TQ.next ?_
                    refine TC.cond rfl (fun c3 => ?_) (fun c3 => ?_)
                    · try simp only [decide_eq_true_eq, decide_eq_false_iff_not, Bool.not_eq_true', Bool.not_eq_false', Bool.and_eq_true, Bool.or_eq_true, Nat.not_lt, Nat.not_le, beq_iff_eq, bne_iff_ne] at c3
                      exfalso
                      rcases hcase with ⟨he, hg⟩ | ⟨he, rfl⟩
                      · have h0 := hgk.1 hg
                        first | omega | (simp_all; done) | (simp_all; omega)
                      · first | omega | (simp_all; done) | (simp_all; omega) --stop
                    · try simp only [decide_eq_true_eq, decide_eq_false_iff_not, Bool.not_eq_true', Bool.not_eq_false', Bool.and_eq_true, Bool.or_eq_true, Nat.not_lt, Nat.not_le, beq_iff_eq, bne_iff_ne] at c3
                      refine TC.skip ?_
                      refine TQ.block_normal ?_
                      refine TQ.next ?_
                      refine TC.region ?_
                      refine TL.val rfl rfl rfl (Y.bin rfl rfl rfl (br_addN (n := 1) (by omega))) ?_
                      refine TL.val rfl rfl rfl (Y.move rfl rfl) ?_
                      refine TL.nil ?_
                      refine TQ.loopF ((k + 1, la', lc', l', clk')) (⟨by show k + 1 ≤ _; omega, hl4'⟩) ((by show cs.length - (k + 1) < cs.length - k; omega)) ⟨rfl, trivial⟩ (by (repeat first | apply Grow.refl | apply Grow.step | apply Grow.app)) ?_ ?_ ?_
                      · kernel_rfl
                      · rfl
                      · simp only [List.cons_append, List.nil_append]
                        exact ett
                · try simp only [decide_eq_true_eq, decide_eq_false_iff_not, Bool.not_eq_true', Bool.not_eq_false', Nat.not_lt, Nat.not_le, beq_iff_eq, bne_iff_ne] at g14_26
                  refine TL.not rfl rfl rfl ?_
                  refine TL.not rfl rfl rfl ?_
                  refine TL.valG rfl rfl rfl (Y.pick_f rfl rfl rfl) ?_
                  refine TL.val rfl rfl rfl (Y.pick_f rfl rfl rfl) ?_
                  refine TL.val rfl rfl rfl (Y.move rfl rfl) ?_
                  refine TL.valG rfl rfl rfl (Y.move rfl rfl) ?_
                  refine TL.effG rfl rfl rfl (X.call rfl Try.func14 (by kernel_rfl) rfl rfl (Fn.preE (by repeat first | (with_reducible apply Ent.refl) | (apply Ent.cons; case h => first | (with_reducible (repeat first | apply Pull.here | apply Pull.there); done) | (repeat first | apply Pull.here | apply Pull.there))) (Pairs_fn b23 na23 (nmB name).length nc23 pa23 (bl password).length pc23 la' lc' l' clk' (by omega) _))) ?_
                  rintro _ _ ⟨a107, c107, rfl, rfl⟩
                  refine TL.valG rfl rfl rfl (Y.len rfl Try.underlying48 rfl) ?_
                  refine TL.valG rfl rfl rfl (Y.bin rfl rfl rfl (br_gtN (n := 4))) ?_
                  refine TL.val rfl rfl rfl (Y.pick_f rfl rfl rfl) ?_
                  refine TL.nil ?_
                  refine TQ.next ?_
                  refine TC.cond rfl (fun c3 => ?_) (fun c3 => ?_)
                  · try simp only [decide_eq_true_eq, decide_eq_false_iff_not, Bool.not_eq_true', Bool.not_eq_false', Bool.and_eq_true, Bool.or_eq_true, Nat.not_lt, Nat.not_le, beq_iff_eq, bne_iff_ne] at c3
                    exfalso
                    rcases hcase with ⟨he, hg⟩ | ⟨he, rfl⟩
                    · have h0 := hgk.1 hg
                      first | omega | (simp_all; done) | (simp_all; omega)
                    · first | omega | (simp_all; done) | (simp_all; omega) --stop
                  · try simp only [decide_eq_true_eq, decide_eq_false_iff_not, Bool.not_eq_true', Bool.not_eq_false', Bool.and_eq_true, Bool.or_eq_true, Nat.not_lt, Nat.not_le, beq_iff_eq, bne_iff_ne] at c3
                    refine TC.skip ?_
                    refine TQ.block_normal ?_
                    refine TQ.next ?_
                    refine TC.region ?_
                    refine TL.val rfl rfl rfl (Y.bin rfl rfl rfl (br_addN (n := 1) (by omega))) ?_
                    refine TL.val rfl rfl rfl (Y.move rfl rfl) ?_
                    refine TL.nil ?_
                    refine TQ.loopF ((k + 1, la', lc', l', clk')) (⟨by show k + 1 ≤ _; omega, hl4'⟩) ((by show cs.length - (k + 1) < cs.length - k; omega)) ⟨rfl, trivial⟩ (by (repeat first | apply Grow.refl | apply Grow.step | apply Grow.app)) ?_ ?_ ?_
                    · kernel_rfl
                    · rfl
                    · simp only [List.cons_append, List.nil_append]
                      exact ett
        · try simp only [decide_eq_true_eq, decide_eq_false_iff_not, Bool.not_eq_true', Bool.not_eq_false', Nat.not_lt, Nat.not_le, beq_iff_eq, bne_iff_ne] at g14_6
          refine TL.not rfl rfl rfl ?_
          refine TL.not rfl rfl rfl ?_
          refine TL.not rfl rfl rfl ?_
          refine TL.not rfl rfl rfl ?_
          refine TL.not rfl rfl rfl ?_
          refine TL.not rfl rfl rfl ?_
          refine TL.not rfl rfl rfl ?_
          refine TL.not rfl rfl rfl ?_
          refine TL.not rfl rfl rfl ?_
          refine TL.not rfl rfl rfl ?_
          refine TL.not rfl rfl rfl ?_
          refine TL.not rfl rfl rfl ?_
          refine TL.not rfl rfl rfl ?_
          refine TL.not rfl rfl rfl ?_
          refine TL.not rfl rfl rfl ?_
          refine TL.val rfl rfl rfl (Y.pick_f rfl rfl rfl) ?_
          refine TL.val rfl rfl rfl (Y.move rfl rfl) ?_
          refine TL.valG rfl rfl rfl (Y.move rfl rfl) ?_
          refine TL.valG rfl rfl rfl (Y.bin rfl rfl rfl (br_neN (n := 0))) ?_
          refine TL.valG rfl rfl rfl (Y.move rfl rfl) ?_
          refine TL.case (fun g14_26 => ?_) (fun g14_26 => ?_)
          · try simp only [decide_eq_true_eq, decide_eq_false_iff_not, Bool.not_eq_true', Bool.not_eq_false', Nat.not_lt, Nat.not_le, beq_iff_eq, bne_iff_ne] at g14_26
            refine TL.valG rfl rfl rfl (Y.move rfl rfl) ?_
            refine TL.valG rfl rfl rfl (Y.bin rfl rfl rfl (br_eqN (n := 0))) ?_
            refine TL.valG rfl rfl rfl (Y.pick_t rfl rfl rfl) ?_
            refine TL.val rfl rfl rfl (Y.pick_f rfl rfl rfl) ?_
            refine TL.val rfl rfl rfl (Y.move rfl rfl) ?_
            refine TL.case (fun g14_31 => ?_) (fun g14_31 => ?_)
            · try simp only [decide_eq_true_eq, decide_eq_false_iff_not, Bool.not_eq_true', Bool.not_eq_false', Nat.not_lt, Nat.not_le, beq_iff_eq, bne_iff_ne] at g14_31
              refine TL.not rfl rfl rfl ?_
              refine TL.not rfl rfl rfl ?_
              refine TL.not rfl rfl rfl ?_
              refine TL.not rfl rfl rfl ?_
              refine TL.val rfl rfl rfl (Y.pick_t rfl rfl rfl) ?_
              refine TL.nil ?_
              refine TQ.next ?_
              refine TC.cond_t rfl ?_
              refine TC.seq ?_
              refine TC.region ?_
              refine TL.val rfl rfl rfl (Y.assign rfl rfl) ?_
              refine TL.nil ?_
              refine TQ.next ?_
              refine TC.ret ?_
              refine TQ.block_ret ?_
              refine TQ.then_ret ?_
              refine TQ.then_ret ?_
              refine TQ.block_ret ?_
              refine TQ.then_ret ?_
              refine TQ.retE (res1 rfl rfl) ((by first | exact ⟨rfl, rfl⟩ | (refine ⟨?_, rfl⟩; exfalso; rcases hcase with ⟨he, hg⟩ | ⟨he, rfl⟩ <;> first | omega | (have h0 := hgk.1 hg; first | omega | (simp_all; done) | (simp_all; omega)) | (simp_all; done) | (simp_all; omega)))) ?_
              exact ett
            · try simp only [decide_eq_true_eq, decide_eq_false_iff_not, Bool.not_eq_true', Bool.not_eq_false', Nat.not_lt, Nat.not_le, beq_iff_eq, bne_iff_ne] at g14_31
              refine TL.valG rfl rfl rfl (Y.move rfl rfl) ?_
              refine TL.effG rfl rfl rfl (X.call rfl Try.func14 (by kernel_rfl) rfl rfl (Fn.preE (by repeat first | (with_reducible apply Ent.refl) | (apply Ent.cons; case h => first | (with_reducible (repeat first | apply Pull.here | apply Pull.there); done) | (repeat first | apply Pull.here | apply Pull.there))) (Pairs_fn b23 na23 (nmB name).length nc23 pa23 (bl password).length pc23 la' lc' l' clk' (by omega) _))) ?_
              rintro _ _ ⟨a107, c107, rfl, rfl⟩
              refine TL.valG rfl rfl rfl (Y.len rfl Try.underlying48 rfl) ?_
              refine TL.valG rfl rfl rfl (Y.bin rfl rfl rfl (br_gtN (n := 4))) ?_
              refine TL.val rfl rfl rfl (Y.pick_f rfl rfl rfl) ?_
              refine TL.nil ?_
              refine TQ.next ?_
              refine TC.cond rfl (fun c3 => ?_) (fun c3 => ?_)
              · try simp only [decide_eq_true_eq, decide_eq_false_iff_not, Bool.not_eq_true', Bool.not_eq_false', Bool.and_eq_true, Bool.or_eq_true, Nat.not_lt, Nat.not_le, beq_iff_eq, bne_iff_ne] at c3
                exfalso
                rcases hcase with ⟨he, hg⟩ | ⟨he, rfl⟩
                · have h0 := hgk.1 hg
                  first | omega | (simp_all; done) | (simp_all; omega)
                · first | omega | (simp_all; done) | (simp_all; omega) --stop
              · try simp only [decide_eq_true_eq, decide_eq_false_iff_not, Bool.not_eq_true', Bool.not_eq_false', Bool.and_eq_true, Bool.or_eq_true, Nat.not_lt, Nat.not_le, beq_iff_eq, bne_iff_ne] at c3
                refine TC.skip ?_
                refine TQ.block_normal ?_
                refine TQ.next ?_
                refine TC.region ?_
                refine TL.val rfl rfl rfl (Y.bin rfl rfl rfl (br_addN (n := 1) (by omega))) ?_
                refine TL.val rfl rfl rfl (Y.move rfl rfl) ?_
                refine TL.nil ?_
                refine TQ.loopF ((k + 1, la', lc', l', clk')) (⟨by show k + 1 ≤ _; omega, hl4'⟩) ((by show cs.length - (k + 1) < cs.length - k; omega)) ⟨rfl, trivial⟩ (by (repeat first | apply Grow.refl | apply Grow.step | apply Grow.app)) ?_ ?_ ?_
                · kernel_rfl
                · rfl
                · simp only [List.cons_append, List.nil_append]
                  exact ett
          · try simp only [decide_eq_true_eq, decide_eq_false_iff_not, Bool.not_eq_true', Bool.not_eq_false', Nat.not_lt, Nat.not_le, beq_iff_eq, bne_iff_ne] at g14_26
            refine TL.not rfl rfl rfl ?_
            refine TL.not rfl rfl rfl ?_
            refine TL.valG rfl rfl rfl (Y.pick_f rfl rfl rfl) ?_
            refine TL.val rfl rfl rfl (Y.pick_f rfl rfl rfl) ?_
            refine TL.val rfl rfl rfl (Y.move rfl rfl) ?_
            refine TL.valG rfl rfl rfl (Y.move rfl rfl) ?_
            refine TL.effG rfl rfl rfl (X.call rfl Try.func14 (by kernel_rfl) rfl rfl (Fn.preE (by repeat first | (with_reducible apply Ent.refl) | (apply Ent.cons; case h => first | (with_reducible (repeat first | apply Pull.here | apply Pull.there); done) | (repeat first | apply Pull.here | apply Pull.there))) (Pairs_fn b23 na23 (nmB name).length nc23 pa23 (bl password).length pc23 la' lc' l' clk' (by omega) _))) ?_
            rintro _ _ ⟨a107, c107, rfl, rfl⟩
            refine TL.valG rfl rfl rfl (Y.len rfl Try.underlying48 rfl) ?_
            refine TL.valG rfl rfl rfl (Y.bin rfl rfl rfl (br_gtN (n := 4))) ?_
            refine TL.val rfl rfl rfl (Y.pick_f rfl rfl rfl) ?_
            refine TL.nil ?_
            refine TQ.next ?_
            refine TC.cond rfl (fun c3 => ?_) (fun c3 => ?_)
            · try simp only [decide_eq_true_eq, decide_eq_false_iff_not, Bool.not_eq_true', Bool.not_eq_false', Bool.and_eq_true, Bool.or_eq_true, Nat.not_lt, Nat.not_le, beq_iff_eq, bne_iff_ne] at c3
              exfalso
              rcases hcase with ⟨he, hg⟩ | ⟨he, rfl⟩
              · have h0 := hgk.1 hg
                first | omega | (simp_all; done) | (simp_all; omega)
              · first | omega | (simp_all; done) | (simp_all; omega) --stop
            · try simp only [decide_eq_true_eq, decide_eq_false_iff_not, Bool.not_eq_true', Bool.not_eq_false', Bool.and_eq_true, Bool.or_eq_true, Nat.not_lt, Nat.not_le, beq_iff_eq, bne_iff_ne] at c3
              refine TC.skip ?_
              refine TQ.block_normal ?_
              refine TQ.next ?_
              refine TC.region ?_
              refine TL.val rfl rfl rfl (Y.bin rfl rfl rfl (br_addN (n := 1) (by omega))) ?_
              refine TL.val rfl rfl rfl (Y.move rfl rfl) ?_
              refine TL.nil ?_
              refine TQ.loopF ((k + 1, la', lc', l', clk')) (⟨by show k + 1 ≤ _; omega, hl4'⟩) ((by show cs.length - (k + 1) < cs.length - k; omega)) ⟨rfl, trivial⟩ (by (repeat first | apply Grow.refl | apply Grow.step | apply Grow.app)) ?_ ?_ ?_
              · kernel_rfl
              · rfl
              · simp only [List.cons_append, List.nil_append]
                exact ett
  · try simp only [decide_eq_true_eq, decide_eq_false_iff_not, Bool.not_eq_true', Bool.not_eq_false', Bool.and_eq_true, Bool.or_eq_true, Nat.not_lt, Nat.not_le, beq_iff_eq, bne_iff_ne] at c1
    refine TC.exit ?_
    refine TQ.then_exit ?_
    refine TQ.then_exit ?_
    refine TQ.block_exit ?_
    refine TQ.next ?_
    refine TC.seq ?_
    refine TC.region ?_
    refine TL.val rfl rfl rfl (Y.assign rfl rfl) ?_
    refine TL.nil ?_
    refine TQ.next ?_
    refine TC.ret ?_
    refine TQ.retE (res1 rfl rfl) ((by first | exact ⟨rfl, rfl⟩ | (refine ⟨?_, rfl⟩; exfalso; rcases hcase with ⟨he, hg⟩ | ⟨he, rfl⟩ <;> first | omega | (have h0 := hgk.1 hg; first | omega | (simp_all; done) | (simp_all; omega)) | (simp_all; done) | (simp_all; omega)))) ?_
    exact ett
section
theorem datAddr : DatT Try.prog 28 Ad (fun _ => True ∧ True) :=
  DatF.all (DatF.cons (n := 1) Try.underlying28 (i := 0) rfl (by kernel_rfl) (DatT.u32 Try.underlying26) (DatF.last (n := 1) Try.underlying28 (i := 1) rfl (by kernel_rfl) (DatT.u16 Try.underlying22) (by kernel_rfl)))
theorem DatT.i64 {P : Program} {t : TypeId} (h : P.underlying t = some (.int .i64)) : DatT P t Int inI := DatT.int h
abbrev ckT := 32
theorem datCk : DatT Try.prog ckT CkD (fun x => (True ∧ True) ∧ inI x.2.1 ∧ x.2.2.1.size ≤ reachBytes ∧ x.2.2.2.1.size ≤ reachBytes ∧ inI x.2.2.2.2.1 ∧ inI x.2.2.2.2.2.1 ∧ True ∧ True ∧ (x.2.2.2.2.2.2.2.2.1.l.length * 2 ≤ reachBytes ∧ ∀ y ∈ x.2.2.2.2.2.2.2.2.1.l, True) ∧ inI x.2.2.2.2.2.2.2.2.2.1 ∧ True ∧ True ∧ x.2.2.2.2.2.2.2.2.2.2.2.2.l.length ≤ reachBytes) :=
  DatF.all (DatF.cons (n := 2) Try.underlying32 (i := 0) rfl (by kernel_rfl) datAddr
    (DatF.cons (n := 1) Try.underlying32 (i := 1) rfl (by kernel_rfl) (DatT.int Try.underlying2)
    (DatF.cons (n := 1) Try.underlying32 (i := 2) rfl (by kernel_rfl) (DatT.string Try.underlying9)
    (DatF.cons (n := 1) Try.underlying32 (i := 3) rfl (by kernel_rfl) (DatT.string Try.underlying9)
    (DatF.cons (n := 1) Try.underlying32 (i := 4) rfl (by kernel_rfl) (DatT.int Try.underlying3)
    (DatF.cons (n := 1) Try.underlying32 (i := 5) rfl (by kernel_rfl) (DatT.int Try.underlying3)
    (DatF.cons (n := 1) Try.underlying32 (i := 6) rfl (by kernel_rfl) (DatT.bool Try.underlying4)
    (DatF.cons (n := 1) Try.underlying32 (i := 7) rfl (by kernel_rfl) (DatT.bool Try.underlying4)
    (DatF.cons (n := 1) Try.underlying32 (i := 8) rfl (by kernel_rfl) (DatT.slice Try.underlying29 (by kernel_rfl) (by kernel_rfl) (DatT.u16 Try.underlying22))
    (DatF.cons (n := 1) Try.underlying32 (i := 9) rfl (by kernel_rfl) (DatT.int Try.underlying3)
    (DatF.cons (n := 1) Try.underlying32 (i := 10) rfl (by kernel_rfl) (DatT.u8 Try.underlying5)
    (DatF.cons (n := 1) Try.underlying32 (i := 11) rfl (by kernel_rfl) (DatT.bool Try.underlying4)
    (DatF.last (n := 1) Try.underlying32 (i := 12) rfl (by kernel_rfl) (DatT.bytes Try.underlying30 Try.underlying5 (by kernel_rfl) (by kernel_rfl)) (by kernel_rfl))))))))))))))
variable {H : Type} {enc : TypeId × Value → H} {W : World} {base : Nat}
set_option maxRecDepth 100000 in
theorem guards_open {s0 s1 : ByteArray} {v2 : Value} {d0 d1 d2 : DataW H} {p2 : List MemPlace} (h0 : s0.size ≤ 140737488351232) (h1 : s1.size ≤ 140737488351232)
    (o2 : Value.okWide Try.prog W .any base 39 v2) (k2 : DataW.Trod enc Try.prog W 0 (fun _ => true) true 39 v2 d2 p2)
    (hsz : (DataW.weightsEach Try.prog ([9, 9, 39] ++ []) ([d0, d1, d2] ++ [])).all (· ≤ reachBytes) = true) :
    Calls Try.prog 4 #[.string s0, .string s1, v2] W fun e w' => e = .returned (.bool true) ∧ Fr [] W w' := by
  obtain ⟨⟨a, cap, l⟩, rfl, g1, -, g2⟩ := open_slice (Bd := fun s : Sl CkD => s.l.length * (Try.prog.bytesOf ckT) ≤ reachBytes ∧ ∀ x ∈ s.l, _) (DatT.slice Try.underlying39 (by kernel_rfl) rfl datCk) Try.underlying39 2 o2 k2 hsz rfl rfl
  exact Fn.topD (As := [SA.dat (⟨a, cap, l⟩ : Sl CkD)]) (guards_fn s0 s1 h0 h1 a cap l (fun x hx => ⟨(g2 x hx).2.2.1, (g2 x hx).2.2.2.1, (g2 x hx).2.2.2.2.2.2.2.2.2.2.2.2⟩) [SA.old W]) (fun A hA => by rw [hA.one]; exact SA.dat_arg g1)
set_option maxRecDepth 100000 in
theorem firsts_open {v : Value} {d : DataW H} {p : List MemPlace} (o : Value.okWide Try.prog W .any base 30 v) (k : DataW.Trod enc Try.prog W 0 (fun _ => true) true 30 v d p)
    (hsz : (DataW.weightsEach Try.prog ([30] ++ []) ([d] ++ [])).all (· ≤ reachBytes) = true) :
    Calls Try.prog 6 #[v] W fun e w' => e = .returned (.bool true) ∧ Fr [] W w' := by
  obtain ⟨a, cap, bs, rfl, h1, h2⟩ := open_bytes 0 o k hsz rfl rfl Try.underlying30 Try.underlying5 (by kernel_rfl) (by kernel_rfl)
  exact Fn.topD (As := [_]) (firsts_fn a _ cap bs rfl [SA.old W]) (fun A hA => by rw [hA.one]; exact h1.arg (by decide))
set_option maxRecDepth 100000 in
theorem nil_open {v0 v1 : Value} {d0 d1 d2 : DataW H} {p0 p1 : List MemPlace} {t : Int} (o0 : Value.okWide Try.prog W .any base 30 v0) (k0 : DataW.Trod enc Try.prog W 0 (fun _ => true) true 30 v0 d0 p0)
    (o1 : Value.okWide Try.prog W .any base 28 v1) (k1 : DataW.Trod enc Try.prog W 0 (fun _ => true) true 28 v1 d1 p1)
    (hsz : (DataW.weightsEach Try.prog ([30, 28, 2] ++ []) ([d0, d1, d2] ++ [])).all (· ≤ reachBytes) = true) :
    Calls Try.prog 5 #[v0, v1, .int .i64 t] W fun e w' => e = .returned (.bool true) ∧ Fr [] W w' := by
  obtain ⟨a, cap, bs, rfl, h1, h2⟩ := open_bytes 0 o0 k0 hsz rfl rfl Try.underlying30 Try.underlying5 (by kernel_rfl) (by kernel_rfl)
  obtain ⟨⟨ip, port⟩, rfl, -, -⟩ := open_struct datAddr Try.underlying28 1 o1 k1 hsz rfl rfl
  exact Fn.topD (As := [_]) (nil_fn a _ cap bs rfl ip port t [SA.old W]) (fun A hA => by rw [hA.one]; exact h1.arg (by decide))
theorem fades_open {a b c : Int} (ha : (Lit.int .u16 a).wf = true) (hb : (Lit.int .u16 b).wf = true) (hc : (Lit.int .u16 c).wf = true) :
    Calls Try.prog 3 #[.int .u16 a, .int .u16 b, .int .u16 c] W fun e w' => e = .returned (.bool true) ∧ Fr [] W w' := by
  rw [wf_u16 ha, wf_u16 hb, wf_u16 hc]
  exact Fn.topD (As := []) (fades_fn (UInt16.ofNat a.toNat) (UInt16.ofNat b.toNat) (UInt16.ofNat c.toNat) [SA.old W]) (fun A hA => hA.nil_elim)
end
end ice
end Go.Proofs.Ytpmplnkempcmjaa
