/- slices.IndexFunc and ContainsFunc, over rostrum/stun.Attr. -/
import Derived.Test.YtggammbhmoippaaChecked
import Derived.Test.YtggammbhmoippaaHLend
import Derived.Test.YtggammbhmoippaaHAuto
namespace Go.Proofs.Ytggammbhmoippaa
set_option linter.unusedVariables false
set_option linter.unusedSimpArgs false
open Go.RowKit
namespace ixat
namespace FxIdxFAt
set_option maxRecDepth 100000
theorem sl32 : Program.slI Try.prog 32 = some 2 := by kernel_rfl
end FxIdxFAt
open FxIdxFAt
def idx {α : Type} (p : α → Bool) (l : List α) : Int := match l.findIdx? p with
  | some i => i
  | none => -1
theorem find_take {α : Type} {p : α → Bool} {l : List α} {k : Nat} {x : α} (h : ∀ y ∈ l.take k, p y = false) (hx : l[k]? = some x) (hp : p x = true) : idx p l = k := by
  have e : l.findIdx? p = some k := by
    obtain ⟨hk, hxe⟩ := List.getElem?_eq_some_iff.1 hx
    rw [List.findIdx?_eq_some_iff_getElem]
    refine ⟨hk, by rw [hxe]; exact hp, fun j hj => ?_⟩
    have := h (l[j]) (by rw [List.mem_take_iff_getElem]; exact ⟨j, by omega, rfl⟩)
    simp [this]
  unfold idx; rw [e]
theorem find_none {α : Type} {p : α → Bool} {l : List α} (h : ∀ y ∈ l, p y = false) : idx p l = -1 := by
  have e : l.findIdx? p = none := by rw [List.findIdx?_eq_none_iff]; exact h
  unfold idx; rw [e]
theorem take_all {α : Type} {p : α → Bool} {l : List α} {k : Nat} {x : α} (h : ∀ y ∈ l.take k, p y = false) (hx : l[k]? = some x) (hp : p x = false) : ∀ y ∈ l.take (k + 1), p y = false := by
  intro y hy
  rw [List.take_add_one, hx] at hy
  rcases List.mem_append.1 hy with h1 | h1
  · exact h y h1
  · simp at h1; subst h1; exact hp
set_option maxHeartbeats 1000000 in
theorem IndexFunc_fn {α : Type} [Dat α] (A : SA) (a : Option Addr) (n cap : Nat) (l : List α) (hA : Reads A 2 (.slice a n cap) n (Dat.cs l)) (hn : l.length = n) (hs : Dat.sz α = 2) (pf : FuncId) (pfn : Func) (fs cs : List Value) (p : α → Bool) (L : List SA)
    (hf : Try.prog.funcs[pf]? = some pfn) (hnm : (pfn.name == "runtime.NumGoroutine") = false) (hbd : pfn.body.isNone = false)
    (hp : ∀ x ∈ l, Fn Try.prog pf (fs ++ [.agg (Dat.c x).toArray] ++ cs) (A :: L) (fun v L' => v = .bool (p x) ∧ L' = A :: L)) :
    Fn Try.prog 58 [.slice a n cap, .func (.func pf) fs.toArray cs.toArray] (A :: L) (fun v L' => v = vI (idx p l) ∧ L' = A :: L) := by
  subst hn
  refine Fn.of (N := 19) Try.func58 rfl rfl ?_
  intro Xh
  refine TC.know (reads_cap hA inn) ?_
  rintro ⟨hc1, hc2, -, -⟩
  simp only [maxLen] at hc2
  refine TC.seq ?_
  refine TC.region ?_
  refine TL.val rfl rfl rfl (Y.assign rfl rfl) ?_
  refine TL.nil ?_
  refine TQ.next ?_
  refine TC.seq ?_
  refine TC.seq ?_
  refine TC.region ?_
  refine TL.val rfl rfl rfl (Y.move rfl rfl) ?_
  refine TL.val rfl rfl rfl (Y.len rfl Try.underlying32 rfl) ?_
  refine TL.val rfl rfl rfl (Y.move rfl rfl) ?_
  refine TL.nil ?_
  refine TQ.next ?_
  refine TC.block ?_
  refine TC.loopF (ι := Nat) [4] (fun k => k ≤ l.length ∧ ∀ y ∈ l.take k, p y = false) (fun k => [(8, some (vN k))]) (fun k => []) (fun k => l.length - k) (0) (⟨by omega, by simp⟩) ⟨rfl, trivial⟩ Pulls.nil ?_
  rintro k ⟨hk, hq⟩ F' L' rfl hL'
  simp only [List.cons_append, List.nil_append] at hL'
  subst hL'
  refine TC.seq ?_
  refine TC.region ?_
  refine TL.val rfl rfl rfl (Y.bin rfl rfl rfl (br_ltN)) ?_
  refine TL.nil ?_
  refine TQ.next ?_
  refine TC.seq ?_
  refine TC.cond rfl (fun c0 => ?_) (fun c0 => ?_)
  · try simp only [decide_eq_true_eq, decide_eq_false_iff_not, Bool.not_eq_true', Bool.not_eq_false', Bool.and_eq_true, Bool.or_eq_true, Nat.not_lt, Nat.not_le, beq_iff_eq, bne_iff_ne] at c0
    refine TC.skip ?_
    refine TQ.next ?_
    refine TC.seq ?_
    refine TC.block ?_
    refine TC.seq ?_
    refine TC.region ?_
    refine TL.val rfl rfl rfl (Y.move rfl rfl) ?_
    refine TL.val rfl rfl rfl (Y.assign rfl rfl) ?_
    refine TL.nil ?_
    refine TQ.next ?_
    refine TC.seq ?_
    obtain ⟨x, hx, hxm⟩ := getS (l := l) (i := k) (by omega)
    have hpos : 0 < 2 := by decide
    refine TC.know (reads_some hA inn (by omega) hpos) ?_
    rintro ⟨g, off, rfl⟩
    have hcl : (Dat.c x).length = 2 := by rw [Dat.len]; exact hs
    refine TC.region ?_
    refine TL.val rfl rfl rfl (Y.move rfl rfl) ?_
    refine TL.val rfl rfl rfl (Y.move rfl rfl) ?_
    refine TL.val rfl rfl rfl (Y.move rfl rfl) ?_
    refine TL.val rfl rfl rfl (by first | exact Y.indexSlB rfl sl32 rfl rfl (by omega) nqq | exact Y.indexSl rfl sl32 rfl rfl (by omega) nqq) ?_
    refine TL.val rfl rfl rfl (Y.loadAgg rfl (by kernel_rfl) rfl (Cels.at (g := g) (off := off) hA inn hx hs) hcl) ?_
    refine TL.eff rfl rfl rfl (X.callDyn rfl rfl hf hnm hbd rfl (hp x hxm)) ?_
    rintro _ _ ⟨rfl, rfl⟩
    refine TL.nil ?_
    refine TQ.next ?_
    refine TC.cond rfl (fun c1 => ?_) (fun c1 => ?_)
    · try simp only [decide_eq_true_eq, decide_eq_false_iff_not, Bool.not_eq_true', Bool.not_eq_false', Bool.and_eq_true, Bool.or_eq_true, Nat.not_lt, Nat.not_le, beq_iff_eq, bne_iff_ne] at c1
      have hi := find_take hq hx c1
      refine TC.seq ?_
      refine TC.region ?_
      refine TL.val rfl rfl rfl (Y.move rfl rfl) ?_
      refine TL.val rfl rfl rfl (Y.assign rfl rfl) ?_
      refine TL.nil ?_
      refine TQ.next ?_
      refine TC.ret ?_
      refine TQ.block_ret ?_
      refine TQ.then_ret ?_
      refine TQ.then_ret ?_
      refine TQ.block_ret ?_
      refine TQ.then_ret ?_
      refine TQ.retE (res1 rfl rfl) (⟨by rw [hi], rfl⟩) ?_
      exact ett
    · try simp only [decide_eq_true_eq, decide_eq_false_iff_not, Bool.not_eq_true', Bool.not_eq_false', Bool.and_eq_true, Bool.or_eq_true, Nat.not_lt, Nat.not_le, beq_iff_eq, bne_iff_ne] at c1
      refine TC.skip ?_
      refine TQ.block_normal ?_
      refine TQ.next ?_
      refine TC.region ?_
      refine TL.val rfl rfl rfl (Y.bin rfl rfl rfl (br_addN (n := 1) (by omega))) ?_
      refine TL.val rfl rfl rfl (Y.move rfl rfl) ?_
      refine TL.nil ?_
      refine TQ.loopF (k + 1) (⟨by omega, take_all hq hx c1⟩) (by omega) ⟨rfl, trivial⟩ (by (repeat first | apply Grow.refl | apply Grow.step | apply Grow.app)) ?_ ?_ ?_
      · kernel_rfl
      · rfl
      · simp only [List.cons_append, List.nil_append]
        exact ett
  · try simp only [decide_eq_true_eq, decide_eq_false_iff_not, Bool.not_eq_true', Bool.not_eq_false', Bool.and_eq_true, Bool.or_eq_true, Nat.not_lt, Nat.not_le, beq_iff_eq, bne_iff_ne] at c0
    refine TC.exit ?_
    refine TQ.then_exit ?_
    refine TQ.then_exit ?_
    refine TQ.block_exit ?_
    refine TQ.next ?_
    refine TC.seq ?_
    obtain rfl : k = l.length := by omega
    rw [List.take_length] at hq
    have hi := find_none hq
    refine TC.region ?_
    refine TL.val rfl rfl rfl (Y.assign rfl rfl) ?_
    refine TL.nil ?_
    refine TQ.next ?_
    refine TC.ret ?_
    refine TQ.retE (res1 rfl rfl) (⟨by rw [hi], rfl⟩) ?_
    exact ett
theorem idx_any {α : Type} (p : α → Bool) (l : List α) : decide (0 ≤ idx p l) = l.any p := by
  unfold idx
  cases h : l.findIdx? p with
  | none =>
    have := List.findIdx?_eq_none_iff.1 h
    rw [Bool.eq_iff_iff]
    simp
    exact this
  | some i =>
    obtain ⟨hi, hp, -⟩ := List.findIdx?_eq_some_iff_getElem.1 h
    rw [Bool.eq_iff_iff]
    simp
    exact ⟨l[i], List.getElem_mem hi, hp⟩
theorem ContainsFunc_fn {α : Type} [Dat α] (A : SA) (a : Option Addr) (n cap : Nat) (l : List α) (hA : Reads A 2 (.slice a n cap) n (Dat.cs l)) (hn : l.length = n) (hs : Dat.sz α = 2) (pf : FuncId) (pfn : Func) (fs cs : List Value) (p : α → Bool) (L : List SA)
    (hf : Try.prog.funcs[pf]? = some pfn) (hnm : (pfn.name == "runtime.NumGoroutine") = false) (hbd : pfn.body.isNone = false)
    (hp : ∀ x ∈ l, Fn Try.prog pf (fs ++ [.agg (Dat.c x).toArray] ++ cs) (A :: L) (fun v L' => v = .bool (p x) ∧ L' = A :: L)) :
    Fn Try.prog 48 [.slice a n cap, .func (.func pf) fs.toArray cs.toArray] (A :: L) (fun v L' => v = .bool (l.any p) ∧ L' = A :: L) := by
  refine Fn.of (N := 9) Try.func48 rfl rfl ?_
  intro Xh
  refine TC.seq ?_
  refine TC.region ?_
  refine TL.val rfl rfl rfl (Y.assign rfl rfl) ?_
  refine TL.nil ?_
  refine TQ.next ?_
  refine TC.seq ?_
  refine TC.region ?_
  refine TL.val rfl rfl rfl (Y.move rfl rfl) ?_
  refine TL.val rfl rfl rfl (Y.move rfl rfl) ?_
  refine TL.eff rfl rfl rfl (X.call rfl Try.func58 (by kernel_rfl) rfl rfl (Fn.preE (by repeat first | (with_reducible apply Ent.refl) | (apply Ent.cons; case h => first | (with_reducible (repeat first | apply Pull.here | apply Pull.there); done) | (repeat first | apply Pull.here | apply Pull.there))) (IndexFunc_fn A a n cap l hA hn hs pf pfn fs cs p L hf hnm hbd hp))) ?_
  rintro _ _ ⟨rfl, rfl⟩
  refine TL.val rfl rfl rfl (Y.bin rfl rfl rfl (br_geI (n := 0))) ?_
  refine TL.as (.bool (l.any p)) (by rw [idx_any]) ?_
  refine TL.val rfl rfl rfl (Y.assign rfl rfl) ?_
  refine TL.nil ?_
  refine TQ.next ?_
  refine TC.ret ?_
  refine TQ.retE (res1 rfl rfl) (⟨rfl, rfl⟩) ?_
  exact ett
end ixat
end Go.Proofs.Ytggammbhmoippaa
