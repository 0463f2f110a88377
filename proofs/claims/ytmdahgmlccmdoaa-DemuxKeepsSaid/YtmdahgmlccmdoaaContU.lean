/- slices.Index and slices.Contains, over uint32. -/
import Derived.Test.YtmdahgmlccmdoaaChecked
import Derived.Test.YtmdahgmlccmdoaaHTab
namespace Go.Proofs.Ytmdahgmlccmdoaa
set_option linter.unusedVariables false
set_option linter.unusedSimpArgs false
open Go.RowKit
namespace ctu
namespace FxContU
set_option maxRecDepth 100000
theorem sc34 : Program.isSc Try.prog 34 = true := by kernel_rfl
theorem sl35 : Program.slI Try.prog 35 = some 1 := by kernel_rfl
end FxContU
open FxContU
abbrev EL := UInt32
abbrev vx (x : EL) : Value := v32 x
theorem Index_fn (A : SA) (a : Option Addr) (n cap : Nat) (l : List EL) (x : EL) (hA : Reads A 1 (.slice a n cap) n (Dat.cs l)) (hn : l.length = n) (L : List SA) :
    Fn Try.prog 42 [.slice a n cap, vx x] (A :: L) (fun v L' => ∃ r : Int, v = vI r ∧ (0 ≤ r ↔ x ∈ l) ∧ L' = A :: L) := by
  subst hn
  refine Fn.of (N := 19) Try.func42 rfl rfl ?_
  intro Xh
  refine TC.know (reads_cap hA (by with_reducible (repeat first | apply In.here | apply In.there))) ?_
  rintro ⟨hc1, hc2, -, -⟩
  simp only [maxLen] at hc2
  refine TC.seq ?_
  refine TC.region ?_
  refine TL.val rfl rfl rfl (Y.assign rfl rfl) ?_
  refine TL.nil ?_
  refine TQ.next ?_
  refine TC.seq ?_
  refine TC.seq ?_
  refine TC.region ?_
  refine TL.val rfl rfl rfl (Y.move rfl rfl) ?_
  refine TL.val rfl rfl rfl (Y.len rfl Try.underlying35 rfl) ?_
  refine TL.val rfl rfl rfl (Y.move rfl rfl) ?_
  refine TL.nil ?_
  refine TQ.next ?_
  refine TC.block ?_
  refine TC.loopF (ι := Nat) [4] (fun k => k ≤ l.length ∧ x ∉ l.take k) (fun k => [(8, some (vN k))]) (fun k => []) (fun k => l.length - k) (0) (⟨by omega, by simp⟩) ⟨rfl, trivial⟩ Pulls.nil ?_
  rintro k ⟨hk, hq⟩ F' L' rfl hL'
  simp only [List.cons_append, List.nil_append] at hL'
  subst hL'
  refine TC.seq ?_
  refine TC.region ?_
  refine TL.val rfl rfl rfl (Y.bin rfl rfl rfl (br_ltN)) ?_
  refine TL.nil ?_
  refine TQ.next ?_
  refine TC.seq ?_
  refine TC.cond rfl (fun c0 => ?_) (fun c0 => ?_)
  · try simp only [decide_eq_true_eq, decide_eq_false_iff_not, Bool.not_eq_true', Bool.not_eq_false', Bool.and_eq_true, Bool.or_eq_true, Nat.not_lt, Nat.not_le, beq_iff_eq, bne_iff_ne] at c0
    refine TC.skip ?_
    refine TQ.next ?_
    refine TC.seq ?_
    refine TC.block ?_
    refine TC.seq ?_
    refine TC.region ?_
    refine TL.val rfl rfl rfl (Y.move rfl rfl) ?_
    refine TL.val rfl rfl rfl (Y.assign rfl rfl) ?_
    refine TL.nil ?_
    refine TQ.next ?_
    refine TC.seq ?_
    obtain ⟨y, hy, hym⟩ := getS (l := l) (i := k) (by omega)
    refine TC.know (reads_some hA (by with_reducible (repeat first | apply In.here | apply In.there)) (by omega) (by decide)) ?_
    rintro ⟨g, off, rfl⟩
    refine TC.region ?_
    refine TL.val rfl rfl rfl (Y.move rfl rfl) ?_
    refine TL.val rfl rfl rfl (Y.move rfl rfl) ?_
    refine TL.val rfl rfl rfl (Y.move rfl rfl) ?_
    refine TL.val rfl rfl rfl (by first | exact Y.indexSlB rfl sl35 rfl rfl (by omega) (by ((try simp only [Nat.zero_add, Nat.add_zero, Nat.mul_one, Nat.one_mul, Nat.mul_zero, Nat.zero_mul]) <;> rfl)) | exact Y.indexSl rfl sl35 rfl rfl (by omega) (by ((try simp only [Nat.zero_add, Nat.add_zero, Nat.mul_one, Nat.one_mul, Nat.mul_zero, Nat.zero_mul]) <;> rfl))) ?_
    refine TL.val rfl rfl rfl (Y.load rfl sc34 rfl (Cel.atS hA (by with_reducible (repeat first | apply In.here | apply In.there)) hy rfl)) ?_
    refine TL.as (vx y) (by rfl) ?_
    refine TL.val rfl rfl rfl (Y.bin rfl rfl rfl (br_eq32)) ?_
    refine TL.as (.bool (decide (x = y))) (by (first | rfl | (rw [beqB]; done) | (rw [beqB]; rfl))) ?_
    refine TL.nil ?_
    refine TQ.next ?_
    refine TC.cond rfl (fun c1 => ?_) (fun c1 => ?_)
    · try simp only [decide_eq_true_eq, decide_eq_false_iff_not, Bool.not_eq_true', Bool.not_eq_false', Bool.and_eq_true, Bool.or_eq_true, Nat.not_lt, Nat.not_le, beq_iff_eq, bne_iff_ne] at c1
      have hin : x ∈ l := by subst c1; exact hym
      refine TC.seq ?_
      refine TC.region ?_
      refine TL.val rfl rfl rfl (Y.move rfl rfl) ?_
      refine TL.val rfl rfl rfl (Y.assign rfl rfl) ?_
      refine TL.nil ?_
      refine TQ.next ?_
      refine TC.ret ?_
      refine TQ.block_ret ?_
      refine TQ.then_ret ?_
      refine TQ.then_ret ?_
      refine TQ.block_ret ?_
      refine TQ.then_ret ?_
      refine TQ.retE (res1 rfl rfl) ((by first | exact ⟨k, rfl, ⟨fun _ => hin, fun _ => Int.natCast_nonneg k⟩, rfl⟩ | exact ⟨-1, rfl, ⟨fun h => absurd h (by decide), fun h => absurd h hq⟩, rfl⟩)) ?_
      exact (by (repeat first | (with_reducible apply Ent.refl) | (with_reducible apply Ent.nil) | refine Ent.cons (by first | (with_reducible (repeat first | apply Pull.here | apply Pull.there); done) | (repeat first | apply Pull.here | apply Pull.there)) ?_ | refine Ent.skip ?_))
    · try simp only [decide_eq_true_eq, decide_eq_false_iff_not, Bool.not_eq_true', Bool.not_eq_false', Bool.and_eq_true, Bool.or_eq_true, Nat.not_lt, Nat.not_le, beq_iff_eq, bne_iff_ne] at c1
      have hnx : x ∉ l.take (k + 1) := by
        rw [List.take_add_one, hy]
        intro hm
        rcases List.mem_append.1 hm with hm | hm
        · exact hq hm
        · simp at hm; exact c1 hm
      refine TC.skip ?_
      refine TQ.block_normal ?_
      refine TQ.next ?_
      refine TC.region ?_
      refine TL.val rfl rfl rfl (Y.bin rfl rfl rfl (br_addN (n := 1) (by omega))) ?_
      refine TL.val rfl rfl rfl (Y.move rfl rfl) ?_
      refine TL.nil ?_
      refine TQ.loopF (k + 1) (⟨by omega, hnx⟩) (by omega) ⟨rfl, trivial⟩ (by (repeat first | apply Grow.refl | apply Grow.step | apply Grow.app)) ?_ ?_ ?_
      · kernel_rfl
      · rfl
      · simp only [List.cons_append, List.nil_append]
        exact (by (repeat first | (with_reducible apply Ent.refl) | (with_reducible apply Ent.nil) | refine Ent.cons (by first | (with_reducible (repeat first | apply Pull.here | apply Pull.there); done) | (repeat first | apply Pull.here | apply Pull.there)) ?_ | refine Ent.skip ?_))
  · try simp only [decide_eq_true_eq, decide_eq_false_iff_not, Bool.not_eq_true', Bool.not_eq_false', Bool.and_eq_true, Bool.or_eq_true, Nat.not_lt, Nat.not_le, beq_iff_eq, bne_iff_ne] at c0
    obtain rfl : k = l.length := by omega
    rw [List.take_length] at hq
    refine TC.exit ?_
    refine TQ.then_exit ?_
    refine TQ.then_exit ?_
    refine TQ.block_exit ?_
    refine TQ.next ?_
    refine TC.seq ?_
    refine TC.region ?_
    refine TL.val rfl rfl rfl (Y.assign rfl rfl) ?_
    refine TL.nil ?_
    refine TQ.next ?_
    refine TC.ret ?_
    refine TQ.retE (res1 rfl rfl) ((by first | exact ⟨k, rfl, ⟨fun _ => hin, fun _ => Int.natCast_nonneg k⟩, rfl⟩ | exact ⟨-1, rfl, ⟨fun h => absurd h (by decide), fun h => absurd h hq⟩, rfl⟩)) ?_
    exact (by (repeat first | (with_reducible apply Ent.refl) | (with_reducible apply Ent.nil) | refine Ent.cons (by first | (with_reducible (repeat first | apply Pull.here | apply Pull.there); done) | (repeat first | apply Pull.here | apply Pull.there)) ?_ | refine Ent.skip ?_))
theorem Contains_fn (A : SA) (a : Option Addr) (n cap : Nat) (l : List EL) (x : EL) (hA : Reads A 1 (.slice a n cap) n (Dat.cs l)) (hn : l.length = n) (L : List SA) :
    Fn Try.prog 32 [.slice a n cap, vx x] (A :: L) (fun v L' => v = .bool (decide (x ∈ l)) ∧ L' = A :: L) := by
  refine Fn.of (N := 9) Try.func32 rfl rfl ?_
  intro Xh
  refine TC.seq ?_
  refine TC.region ?_
  refine TL.val rfl rfl rfl (Y.assign rfl rfl) ?_
  refine TL.nil ?_
  refine TQ.next ?_
  refine TC.seq ?_
  refine TC.region ?_
  refine TL.val rfl rfl rfl (Y.move rfl rfl) ?_
  refine TL.val rfl rfl rfl (Y.move rfl rfl) ?_
  refine TL.eff rfl rfl rfl (X.call rfl Try.func42 (by kernel_rfl) rfl rfl (Fn.preE (by repeat first | (with_reducible apply Ent.refl) | (apply Ent.cons; case h => first | (with_reducible (repeat first | apply Pull.here | apply Pull.there); done) | (repeat first | apply Pull.here | apply Pull.there))) (Index_fn A a n cap l x hA hn _))) ?_
  rintro _ _ ⟨r7, rfl, hr7, rfl⟩
  refine TL.val rfl rfl rfl (Y.bin rfl rfl rfl (br_geI (n := 0))) ?_
  refine TL.as (.bool (decide (x ∈ l))) (by (rw [decide_eq_decide.2 hr7])) ?_
  refine TL.val rfl rfl rfl (Y.assign rfl rfl) ?_
  refine TL.nil ?_
  refine TQ.next ?_
  refine TC.ret ?_
  refine TQ.retE (res1 rfl rfl) (⟨rfl, rfl⟩) ?_
  exact (by (repeat first | (with_reducible apply Ent.refl) | (with_reducible apply Ent.nil) | refine Ent.cons (by first | (with_reducible (repeat first | apply Pull.here | apply Pull.there); done) | (repeat first | apply Pull.here | apply Pull.there)) ?_ | refine Ent.skip ?_))
end ctu
end Go.Proofs.Ytmdahgmlccmdoaa
