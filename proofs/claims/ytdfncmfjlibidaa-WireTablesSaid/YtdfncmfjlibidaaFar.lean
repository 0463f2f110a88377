/- wire.Far16 and the document's. -/
import Derived.Test.YtdfncmfjlibidaaChecked
import Derived.Test.YtdfncmfjlibidaaHX
namespace Go.Proofs.Ytdfncmfjlibidaa
set_option linter.unusedVariables false
set_option linter.unusedSimpArgs false
open Go.RowKit
namespace r1
namespace FxFar
set_option maxRecDepth 100000

end FxFar
open FxFar
def far16 (a b : UInt16) : Int := if (b - a).toNat < 32768 then ((b - a).toNat : Int) else ((b - a).toNat : Int) - 65536
theorem far16_lo (a b : UInt16) : -32768 ≤ far16 a b := by have := (b - a).toNat_lt; unfold far16; split <;> omega
theorem far16_hi (a b : UInt16) : far16 a b < 32768 := by have := (b - a).toNat_lt; unfold far16; split <;> omega
theorem cv_i16 (x : UInt16) : IntKind.i16.wrap (x.toNat : Int) = if x.toNat < 32768 then (x.toNat : Int) else (x.toNat : Int) - 65536 := by
  have := x.toNat_lt
  simp [IntKind.wrap, IntKind.bits, IntKind.signed]
  split <;> omega
--REG rostrum/wire.Far16 : _ _ ⟨rfl, rfl⟩ => (r1.wFar16_fn _ _ _)
theorem wFar16_fn (a b : UInt16) (L : List SA) : Fn Try.prog 13 [v16 a, v16 b] L (fun v L' => v = vI (far16 a b) ∧ L' = L) := by
  have h1 := far16_lo a b
  have h2 := far16_hi a b
  refine Fn.of (N := 10) Try.func13 rfl rfl ?_
  intro Xh
  refine TC.seq ?_
  refine TC.region ?_
  refine TL.val rfl rfl rfl (Y.assign rfl rfl) ?_
  refine TL.nil ?_
  refine TQ.next ?_
  refine TC.seq ?_
  refine TC.region ?_
  refine TL.val rfl rfl rfl (Y.move rfl rfl) ?_
  refine TL.val rfl rfl rfl (Y.move rfl rfl) ?_
  refine TL.val rfl rfl rfl (Y.bin rfl rfl rfl (br_sub16)) ?_
  refine TL.val rfl rfl rfl (Y.conv (m := far16 a b) rfl Try.underlying22 Try.underlying76 rfl (cv_i16 _)) ?_
  refine TL.val rfl rfl rfl (Y.conv (m := far16 a b) rfl Try.underlying76 Try.underlying3 rfl (wrap_i64 _ (by omega) (by omega))) ?_
  refine TL.val rfl rfl rfl (Y.assign rfl rfl) ?_
  refine TL.nil ?_
  refine TQ.next ?_
  refine TC.ret ?_
  refine TQ.retE (res1 rfl rfl) (⟨rfl, rfl⟩) ?_
  exact (by (repeat first | (with_reducible apply Ent.refl) | (with_reducible apply Ent.nil) | refine Ent.cons (by first | (with_reducible (repeat first | apply Pull.here | apply Pull.there); done) | (repeat first | apply Pull.here | apply Pull.there)) ?_ | refine Ent.skip ?_))
--REG rostrum/rostrumref01.Far16 : _ _ ⟨rfl, rfl⟩ => (r1.Far16_fn _ _ _)
theorem Far16_fn (a b : UInt16) (L : List SA) : Fn Try.prog 14 [v16 a, v16 b] L (fun v L' => v = vI (far16 a b) ∧ L' = L) := by
  have h1 := (b - a).toNat_lt
  refine Fn.of (N := 15) Try.func14 rfl rfl ?_
  intro Xh
  refine TC.seq ?_
  refine TC.region ?_
  refine TL.val rfl rfl rfl (Y.assign rfl rfl) ?_
  refine TL.nil ?_
  refine TQ.next ?_
  refine TC.seq ?_
  refine TC.region ?_
  refine TL.val rfl rfl rfl (Y.move rfl rfl) ?_
  refine TL.val rfl rfl rfl (Y.move rfl rfl) ?_
  refine TL.val rfl rfl rfl (Y.bin rfl rfl rfl (br_sub16)) ?_
  refine TL.val rfl rfl rfl (Y.conv rfl Try.underlying22 Try.underlying3 rfl (cv_16_N)) ?_
  refine TL.val rfl rfl rfl (Y.assign rfl rfl) ?_
  refine TL.nil ?_
  refine TQ.next ?_
  refine TC.seq ?_
  refine TC.seq ?_
  refine TC.region ?_
  refine TL.val rfl rfl rfl (Y.move rfl rfl) ?_
  refine TL.val rfl rfl rfl (Y.bin rfl rfl rfl (br_geN (n := 32768))) ?_
  refine TL.nil ?_
  refine TQ.next ?_
  refine TC.cond rfl (fun c0 => ?_) (fun c0 => ?_)
  · try simp only [decide_eq_true_eq, decide_eq_false_iff_not, Bool.not_eq_true', Bool.not_eq_false', Bool.and_eq_true, Bool.or_eq_true, Nat.not_lt, Nat.not_le, beq_iff_eq, bne_iff_ne] at c0
    refine TC.seq ?_
    refine TC.region ?_
    refine TL.val rfl rfl rfl (Y.move rfl rfl) ?_
    refine TL.val rfl rfl rfl (Y.bin rfl rfl rfl (br_subI (n := 65536) (by omega) (by omega))) ?_
    refine TL.val rfl rfl rfl (Y.assign rfl rfl) ?_
    refine TL.nil ?_
    refine TQ.next ?_
    refine TC.ret ?_
    refine TQ.then_ret ?_
    refine TQ.retE (res1 rfl rfl) ((by refine ⟨?_, rfl⟩; unfold far16; first | rw [if_neg (by omega)] | rw [if_pos (by omega)])) ?_
    exact (by (repeat first | (with_reducible apply Ent.refl) | (with_reducible apply Ent.nil) | refine Ent.cons (by first | (with_reducible (repeat first | apply Pull.here | apply Pull.there); done) | (repeat first | apply Pull.here | apply Pull.there)) ?_ | refine Ent.skip ?_))
  · try simp only [decide_eq_true_eq, decide_eq_false_iff_not, Bool.not_eq_true', Bool.not_eq_false', Bool.and_eq_true, Bool.or_eq_true, Nat.not_lt, Nat.not_le, beq_iff_eq, bne_iff_ne] at c0
    refine TC.skip ?_
    refine TQ.next ?_
    refine TC.seq ?_
    refine TC.region ?_
    refine TL.val rfl rfl rfl (Y.move rfl rfl) ?_
    refine TL.val rfl rfl rfl (Y.assign rfl rfl) ?_
    refine TL.nil ?_
    refine TQ.next ?_
    refine TC.ret ?_
    refine TQ.retE (res1 rfl rfl) ((by refine ⟨?_, rfl⟩; unfold far16; first | rw [if_neg (by omega)] | rw [if_pos (by omega)])) ?_
    exact (by (repeat first | (with_reducible apply Ent.refl) | (with_reducible apply Ent.nil) | refine Ent.cons (by first | (with_reducible (repeat first | apply Pull.here | apply Pull.there); done) | (repeat first | apply Pull.here | apply Pull.there)) ?_ | refine Ent.skip ?_))
end r1
end Go.Proofs.Ytdfncmfjlibidaa
