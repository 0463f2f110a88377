/- slices.Clone over uint32. -/
import Derived.Test.YtmdahgmlccmdoaaChecked
import Derived.Test.YtmdahgmlccmdoaaHTab
namespace Go.Proofs.Ytmdahgmlccmdoaa
set_option linter.unusedVariables false
set_option linter.unusedSimpArgs false
open Go.RowKit
namespace clu
namespace FxClnU
set_option maxRecDepth 100000
theorem el35 : Elt Try.prog 35 34 1 4 (.int .u32 0) := ⟨Try.underlying35, by kernel_rfl, rfl, by decide, by simp [Value.cells, Value.oneCell']⟩
end FxClnU
open FxClnU
theorem Clone_fn (A : SA) (a : Option Addr) (n cap : Nat) (cs : List Value) (hA : Reads A 1 (.slice a n cap) n cs) (hn : n * 4 ≤ 140737488355328) (L : List SA) :
    Fn Try.prog 18 [.slice a n cap] (A :: L) (fun v L' => ∃ a' c', v = .slice a' n c' ∧ L' = SA.owns 34 1 (.slice a' n c') n cs :: A :: L) := by
  refine Fn.of (N := 8) Try.func18 rfl rfl ?_
  intro Xh
  refine TC.know (reads_cap hA (by with_reducible (repeat first | apply In.here | apply In.there))) ?_
  rintro ⟨-, -, hlen, hnone⟩
  refine TC.seq ?_
  refine TC.region ?_
  refine TL.val rfl rfl rfl (Y.assign rfl rfl) ?_
  refine TL.nil ?_
  refine TQ.next ?_
  refine TC.seq ?_
  refine TC.seq ?_
  refine TC.region ?_
  refine TL.val rfl rfl rfl (Y.move rfl rfl) ?_
  refine TL.val rfl rfl rfl (Y.eqNilS rfl Try.underlying35 rfl rfl) ?_
  refine TL.nil ?_
  refine TQ.next ?_
  refine TC.cond rfl (fun c0 => ?_) (fun c0 => ?_)
  · try simp only [decide_eq_true_eq, decide_eq_false_iff_not, Bool.not_eq_true', Bool.not_eq_false', Bool.and_eq_true, Bool.or_eq_true, Nat.not_lt, Nat.not_le, beq_iff_eq, bne_iff_ne] at c0
    have ha : a = none := by cases a <;> simp_all
    have h0 := hnone ha
    subst h0
    rw [Nat.zero_mul] at hlen
    obtain rfl : cs = [] := List.eq_nil_of_length_eq_zero hlen
    refine TC.to (Ent.nilOwn 34 1) ?_
    refine TC.seq ?_
    refine TC.region ?_
    refine TL.val rfl rfl rfl (Y.assign rfl rfl) ?_
    refine TL.nil ?_
    refine TQ.next ?_
    refine TC.ret ?_
    refine TQ.then_ret ?_
    refine TQ.retE (res1 rfl rfl) (⟨_, _, rfl, rfl⟩) ?_
    exact (by (repeat first | (with_reducible apply Ent.refl) | (with_reducible apply Ent.nil) | refine Ent.cons (by first | (with_reducible (repeat first | apply Pull.here | apply Pull.there); done) | (repeat first | apply Pull.here | apply Pull.there)) ?_ | refine Ent.skip ?_))
  · try simp only [decide_eq_true_eq, decide_eq_false_iff_not, Bool.not_eq_true', Bool.not_eq_false', Bool.and_eq_true, Bool.or_eq_true, Nat.not_lt, Nat.not_le, beq_iff_eq, bne_iff_ne] at c0
    refine TC.skip ?_
    refine TQ.next ?_
    refine TC.seq ?_
    refine TC.region ?_
    refine TL.eff rfl rfl rfl (X.lit rfl el35 rfl rfl rfl (by decide) rfl) ?_
    rintro _ _ ⟨g5, rfl, rfl⟩
    refine TL.val rfl rfl rfl (Y.move rfl rfl) ?_
    refine TL.eff rfl rfl rfl (X.appendS rfl el35 rfl (by first | (with_reducible (repeat first | apply Pull.here | apply Pull.there); done) | (repeat first | apply Pull.here | apply Pull.there)) rfl (Src.reads hA Try.underlying35 (by with_reducible (repeat first | apply In.here | apply In.there))) (by simp only [maxLen]; omega) (by omega)) ?_
    rintro _ _ ⟨a7, c7, rfl, rfl⟩
    simp only [Nat.zero_add, List.nil_append]
    refine TL.val rfl rfl rfl (Y.assign rfl rfl) ?_
    refine TL.nil ?_
    refine TQ.next ?_
    refine TC.ret ?_
    refine TQ.retE (res1 rfl rfl) (⟨_, _, rfl, rfl⟩) ?_
    exact (by (repeat first | (with_reducible apply Ent.refl) | (with_reducible apply Ent.nil) | refine Ent.cons (by first | (with_reducible (repeat first | apply Pull.here | apply Pull.there); done) | (repeat first | apply Pull.here | apply Pull.there)) ?_ | refine Ent.skip ?_))
end clu
end Go.Proofs.Ytmdahgmlccmdoaa
