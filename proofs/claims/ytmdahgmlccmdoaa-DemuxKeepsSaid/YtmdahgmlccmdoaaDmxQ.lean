/- demux: the document's line, while nothing is latched. -/
import Derived.Test.YtmdahgmlccmdoaaDmxR
namespace Go.Proofs.Ytmdahgmlccmdoaa
set_option linter.unusedVariables false
set_option linter.unusedSimpArgs false
open Go.RowKit
namespace dm
namespace FxDmxQ
set_option maxRecDepth 100000
theorem fo43_1 : Program.fieldOff Try.prog 43 1 = some 1 := by kernel_rfl
theorem fo43_4 : Program.fieldOff Try.prog 43 4 = some 4 := by kernel_rfl
theorem fo65_0 : Program.fieldOff Try.prog 65 0 = some 0 := by kernel_rfl
theorem fo65_2 : Program.fieldOff Try.prog 65 2 = some 2 := by kernel_rfl
theorem fo79_0 : Program.fieldOff Try.prog 79 0 = some 0 := by kernel_rfl
theorem fo79_1 : Program.fieldOff Try.prog 79 1 = some 1 := by kernel_rfl
theorem sc22 : Program.isSc Try.prog 22 = true := by kernel_rfl
theorem sc3 : Program.isSc Try.prog 3 = true := by kernel_rfl
theorem sc34 : Program.isSc Try.prog 34 = true := by kernel_rfl
theorem sc35 : Program.isSc Try.prog 35 = true := by kernel_rfl
theorem sc9 : Program.isSc Try.prog 9 = true := by kernel_rfl
theorem sl22 : Program.slI Try.prog 22 = some 4 := by kernel_rfl
theorem sl35 : Program.slI Try.prog 35 = some 1 := by kernel_rfl
end FxDmxQ
open FxDmxQ
def FS (ls : List LnD) (ty : Int) (k : Nat) : Option Nat → Prop
  | none => ∀ y ∈ ls.take k, pT ty y = false
  | some i => i < k ∧ ixd.idx (pT ty) ls = i ∧ ∀ y ∈ (ls.take k).drop (i + 1), pT ty y = false
theorem FS_hit {ls : List LnD} {ty : Int} {k : Nat} {x : LnD} (h : FS ls ty k none) (hx : ls[k]? = some x) (hp : pT ty x = true) : FS ls ty (k + 1) (some k) := by
  refine ⟨by omega, ixd.find_take h hx hp, fun y hy => ?_⟩
  rw [List.drop_of_length_le (by rw [List.length_take]; omega)] at hy
  cases hy
theorem FS_two {ls : List LnD} {ty : Int} {k i : Nat} {x : LnD} (h : FS ls ty k (some i)) (hx : ls[k]? = some x) (hp : pT ty x = true) : lnT ls ty = -1 := by
  obtain ⟨h1, h2, -⟩ := h
  unfold lnT; rw [h2, if_pos]
  refine ⟨by omega, ?_⟩
  rw [List.any_eq_true]
  refine ⟨x, ?_, hp⟩
  rw [List.mem_iff_getElem?]
  refine ⟨k - (i + 1), ?_⟩
  rw [List.getElem?_drop, ← hx]; congr 1; simp; omega
theorem FS_miss {ls : List LnD} {ty : Int} {k : Nat} {x : LnD} {r : Option Nat} (h : FS ls ty k r) (hx : ls[k]? = some x) (hp : pT ty x = false) : FS ls ty (k + 1) r := by
  cases r with
  | none => exact ixd.take_all h hx hp
  | some i =>
    obtain ⟨h1, h2, h3⟩ := h
    refine ⟨by omega, h2, fun y hy => ?_⟩
    have hk := (List.getElem?_eq_some_iff.1 hx).1
    rw [List.take_add_one, hx, List.drop_append_of_le_length (by rw [List.length_take]; omega)] at hy
    rcases List.mem_append.1 hy with hy | hy
    · exact h3 y hy
    · simp at hy; subst hy; exact hp
theorem FS_end {ls : List LnD} {ty : Int} {r : Option Nat} (h : FS ls ty ls.length r) : lnT ls ty = iv r := by
  cases r with
  | none =>
    have h2 : ixd.idx (pT ty) ls = -1 := ixd.find_none (by have := h; unfold FS at this; rwa [List.take_length] at this)
    unfold lnT; rw [h2, if_neg (by simp)]; rfl
  | some i =>
    obtain ⟨h1, h2, h3⟩ := h
    rw [List.take_length] at h3
    unfold lnT; rw [h2, if_neg]
    · rfl
    · rintro ⟨-, h4⟩
      obtain ⟨y, hy, hp⟩ := List.any_eq_true.1 h4
      have := h3 y (by simpa using hy)
      rw [this] at hp; cases hp
theorem lnS0 {ls : List LnD} {mid : Int} {ty : Int} {src : UInt32} {xs : List XD} (hno : ¬ ((fx xs mid).isSome = true ∧ 0 < mid)) : lnS ls mid [] ty src xs = if 0 ≤ ixd.idx (pS src) ls then ixd.idx (pS src) ls else lnT ls ty := by
  unfold lnS; rw [if_neg hno, if_neg (by simp [tget])]
set_option maxHeartbeats 4000000 in
theorem rline_fn (p1 : Bool) (ty : Int) (seq : UInt16) (p4 src : UInt32) (c y : Value) (hc : c.oneCell' = true) (hy : y.oneCell' = true) (p9 : Int) (a : Option Addr) (cap : Nat) (xs : List XD) (rb : Nat) (la : Option Addr) (lc : Nat) (ls : List LnD) (mid rid : Int) (L : List SA) :
    Fn Try.prog 39 [pt rb 0, .agg (PB p1 ty seq p4 src c (.slice a xs.length cap) y p9)] (RR rb la ls.length lc mid rid :: SA.dat (⟨la, lc, ls⟩ : Sl LnD) :: SA.dat (⟨a, cap, xs⟩ : Sl XD) :: L)
      (fun v L' => v = vI (lnS ls mid [] ty src xs) ∧ L' = RR rb la ls.length lc mid rid :: SA.dat (⟨la, lc, ls⟩ : Sl LnD) :: SA.dat (⟨a, cap, xs⟩ : Sl XD) :: L) := by
  refine Fn.of (N := 125) Try.func39 rfl rfl ?_
  intro Xh
  refine TC.know (dat_cap (a := la) (cap := lc) inn) ?_
  rintro ⟨hc1, hc2, -⟩
  refine TC.seq ?_
  refine TC.region ?_
  refine TL.eff rfl rfl rfl (X.boxA rfl rfl) ?_
  rintro _ _ ⟨b3, rfl, rfl⟩
  refine TL.val rfl rfl rfl (Y.assign rfl rfl) ?_
  refine TL.nil ?_
  refine TQ.next ?_
  refine TC.seq ?_
  refine TC.draws 11 [RR rb la ls.length lc mid rid, SA.blk b3 (PB p1 ty seq p4 src c (.slice a xs.length cap) y p9) 43] (by kernel_rfl) (by kernel_rfl) (by repeat first | exact holds_nil | refine holds_cons inn ?_) ?_
  refine TA.take 0 rfl rfl rfl rfl (by kernel_rfl) (by kernel_rfl) (by kernel_rfl) rfl (by kernel_rfl) (by kernel_rfl) (fun _ _ _ h => h) (Y.loadAgg (m := 9) rfl (by kernel_rfl) rfl (Cels.all (cs := PB p1 ty seq p4 src c (.slice a xs.length cap) y p9) inn) (by rfl)) ?_
  refine TA.as (.agg (PB p1 ty seq p4 src c (.slice a xs.length cap) y p9)) (by rfl) ?_
  refine TA.take 1 rfl rfl rfl rfl (by kernel_rfl) (by kernel_rfl) (by kernel_rfl) rfl (by kernel_rfl) (by kernel_rfl) (fun _ _ _ h => h) (Y.move rfl rfl) ?_
  refine TA.take 2 rfl rfl rfl rfl (by kernel_rfl) (by kernel_rfl) (by kernel_rfl) rfl (by kernel_rfl) (by kernel_rfl) (fun _ _ _ h => h) (Y.nilCheck rfl rfl) ?_
  refine TA.take 3 rfl rfl rfl rfl (by kernel_rfl) (by kernel_rfl) (by kernel_rfl) rfl (by kernel_rfl) (by kernel_rfl) (fun _ _ _ h => h) (by first | exact Y.fieldAddrJ rfl fo79_1 rfl nqq | exact Y.fieldAddr rfl fo79_1 rfl nqq) ?_
  refine TA.take 4 rfl rfl rfl rfl (by kernel_rfl) (by kernel_rfl) (by kernel_rfl) rfl (by kernel_rfl) (by kernel_rfl) (fun _ _ _ h => h) (Y.load rfl sc3 rfl celN) ?_
  refine TA.as (vI mid) (by rfl) ?_
  refine TA.one 5 (by kernel_rfl) rfl rfl rfl rfl (X.call rfl Try.func41 (by kernel_rfl) rfl rfl (Fn.preE (by repeat first | (with_reducible apply Ent.refl) | (apply Ent.cons; case h => first | (with_reducible (repeat first | apply Pull.here | apply Pull.there); done) | (repeat first | apply Pull.here | apply Pull.there))) (rFind_fn p1 ty seq p4 src c y hc hy p9 a cap xs mid _))) ?_
  rintro _ _ ⟨s19, rfl, hs19, rfl⟩
  refine ⟨(Or.inr (by repeat first | exact holds_nil | refine holds_cons inn ?_)), ?_⟩
  refine TA.take 6 rfl rfl rfl rfl (by kernel_rfl) (by kernel_rfl) (by kernel_rfl) rfl (by kernel_rfl) (by kernel_rfl) (fun _ _ _ h => h) (Y.move rfl rfl) ?_
  refine TA.take 7 rfl rfl rfl rfl (by kernel_rfl) (by kernel_rfl) (by kernel_rfl) rfl (by kernel_rfl) (by kernel_rfl) (fun _ _ _ h => h) (Y.extract rfl rfl rfl) ?_
  refine TA.as (s19.v) (by rfl) ?_
  refine TA.take 8 rfl rfl rfl rfl (by kernel_rfl) (by kernel_rfl) (by kernel_rfl) rfl (by kernel_rfl) (by kernel_rfl) (fun _ _ _ h => h) (Y.extract rfl rfl rfl) ?_
  refine TA.as (.bool (fx xs mid).isSome) (by rfl) ?_
  refine TA.take 9 rfl rfl rfl rfl (by kernel_rfl) (by kernel_rfl) (by kernel_rfl) rfl (by kernel_rfl) (by kernel_rfl) (fun _ _ _ h => h) (Y.assign rfl rfl) ?_
  refine TA.take 10 rfl rfl rfl rfl (by kernel_rfl) (by kernel_rfl) (by kernel_rfl) rfl (by kernel_rfl) (by kernel_rfl) (fun _ _ _ h => h) (Y.assign rfl rfl) ?_
  refine TA.done (by kernel_rfl) ?_
  refine TQ.next ?_
  refine TC.cutF (ι := Unit) [4] (fun _ => ¬ ((fx xs mid).isSome = true ∧ 0 < mid)) (fun _ => []) (fun _ => []) (Ao := []) Pulls.nil ?_ ?_
  · rintro L' hL'
    simp only [List.cons_append, List.nil_append] at hL'
    subst hL'
    refine TC.seq ?_
    refine TC.region ?_
    refine TL.val rfl rfl rfl (Y.move rfl rfl) ?_
    refine TL.val rfl rfl rfl (Y.move rfl rfl) ?_
    refine TL.case (fun g2_1 => ?_) (fun g2_1 => ?_)
    · try simp only [decide_eq_true_eq, decide_eq_false_iff_not, Bool.not_eq_true', Bool.not_eq_false', Nat.not_lt, Nat.not_le, beq_iff_eq, bne_iff_ne] at g2_1
      refine TL.valG rfl rfl rfl (Y.move rfl rfl) ?_
      refine TL.valG rfl rfl rfl (Y.nilCheck rfl rfl) ?_
      refine TL.valG rfl rfl rfl (by first | exact Y.fieldAddrJ rfl fo79_1 rfl nqq | exact Y.fieldAddr rfl fo79_1 rfl nqq) ?_
      refine TL.valG rfl rfl rfl (Y.load rfl sc3 rfl celN) ?_
      refine TL.as (vI mid) (by rfl) ?_
      refine TL.valG rfl rfl rfl (Y.bin rfl rfl rfl (br_gtI (n := 0))) ?_
      refine TL.val rfl rfl rfl (Y.pick_t rfl rfl rfl) ?_
      refine TL.nil ?_
      refine TQ.next ?_
      refine TC.cond rfl (fun c0 => ?_) (fun c0 => ?_)
      · try simp only [decide_eq_true_eq, decide_eq_false_iff_not, Bool.not_eq_true', Bool.not_eq_false', Bool.and_eq_true, Bool.or_eq_true, Nat.not_lt, Nat.not_le, beq_iff_eq, bne_iff_ne] at c0
        refine TC.seq ?_
        refine TC.seq ?_
        refine TC.region ?_
        refine TL.val rfl rfl rfl (Y.move rfl rfl) ?_
        refine TL.val rfl rfl rfl (Y.nilCheck rfl rfl) ?_
        refine TL.val rfl rfl rfl (by first | exact Y.fieldAddrJ rfl fo79_0 rfl nqq | exact Y.fieldAddr rfl fo79_0 rfl nqq) ?_
        refine TL.val rfl rfl rfl (Y.load rfl sc22 rfl celD) ?_
        refine TL.as (.slice la ls.length lc) (by rfl) ?_
        refine TL.val rfl rfl rfl (Y.len rfl Try.underlying22 rfl) ?_
        refine TL.val rfl rfl rfl (Y.move rfl rfl) ?_
        refine TL.nil ?_
        refine TQ.next ?_
        refine TC.block ?_
        refine TC.loopF (ι := Nat) [4] (fun k => k ≤ ls.length ∧ ∀ y ∈ ls.take k, pM (fv xs mid) y = false) (fun k => [(35, some (vN k))]) (fun k => []) (fun k => ls.length - k) (0) (⟨by omega, fun y hy => by simp at hy⟩) ⟨rfl, trivial⟩ Pulls.nil ?_
        rintro k ⟨hk, hq⟩ F' L' rfl hL'
        simp only [List.cons_append, List.nil_append] at hL'
        subst hL'
        refine TC.seq ?_
        refine TC.region ?_
        refine TL.val rfl rfl rfl (Y.bin rfl rfl rfl (br_ltN)) ?_
        refine TL.nil ?_
        refine TQ.next ?_
        refine TC.seq ?_
        refine TC.cond rfl (fun c1 => ?_) (fun c1 => ?_)
        · try simp only [decide_eq_true_eq, decide_eq_false_iff_not, Bool.not_eq_true', Bool.not_eq_false', Bool.and_eq_true, Bool.or_eq_true, Nat.not_lt, Nat.not_le, beq_iff_eq, bne_iff_ne] at c1
          refine TC.skip ?_
          refine TQ.next ?_
          refine TC.seq ?_
          refine TC.block ?_
          refine TC.seq ?_
          refine TC.region ?_
          refine TL.val rfl rfl rfl (Y.move rfl rfl) ?_
          refine TL.val rfl rfl rfl (Y.assign rfl rfl) ?_
          refine TL.nil ?_
          refine TQ.next ?_
          refine TC.seq ?_
          refine TC.know (dat_some (a := la) (cap := lc) inn (by omega)) ?_
          rintro ⟨g, off, rfl⟩
          obtain ⟨x, hx, hxm⟩ := getS (l := ls) (i := k) (by omega)
          refine TC.draws 11 _ (by kernel_rfl) (by kernel_rfl) (fun _ h => h) ?_
          refine TA.take 0 rfl rfl rfl rfl (by kernel_rfl) (by kernel_rfl) (by kernel_rfl) rfl (by kernel_rfl) (by kernel_rfl) (fun _ _ _ h => h) (Y.move rfl rfl) ?_
          refine TA.take 1 rfl rfl rfl rfl (by kernel_rfl) (by kernel_rfl) (by kernel_rfl) rfl (by kernel_rfl) (by kernel_rfl) (fun _ _ _ h => h) (Y.nilCheck rfl rfl) ?_
          refine TA.take 2 rfl rfl rfl rfl (by kernel_rfl) (by kernel_rfl) (by kernel_rfl) rfl (by kernel_rfl) (by kernel_rfl) (fun _ _ _ h => h) (by first | exact Y.fieldAddrJ rfl fo79_0 rfl nqq | exact Y.fieldAddr rfl fo79_0 rfl nqq) ?_
          refine TA.take 3 rfl rfl rfl rfl (by kernel_rfl) (by kernel_rfl) (by kernel_rfl) rfl (by kernel_rfl) (by kernel_rfl) (fun _ _ _ h => h) (Y.load rfl sc22 rfl celD) ?_
          refine TA.as (.slice (some ⟨g, off, none⟩) ls.length lc) (by rfl) ?_
          refine TA.take 4 rfl rfl rfl rfl (by kernel_rfl) (by kernel_rfl) (by kernel_rfl) rfl (by kernel_rfl) (by kernel_rfl) (fun _ _ _ h => h) (Y.move rfl rfl) ?_
          refine TA.take 5 rfl rfl rfl rfl (by kernel_rfl) (by kernel_rfl) (by kernel_rfl) rfl (by kernel_rfl) (by kernel_rfl) (fun _ _ _ h => h) (by first | exact Y.indexSlB rfl sl22 rfl rfl (by omega) nqq | exact Y.indexSl rfl sl22 rfl rfl (by omega) nqq) ?_
          refine TA.take 6 rfl rfl rfl rfl (by kernel_rfl) (by kernel_rfl) (by kernel_rfl) rfl (by kernel_rfl) (by kernel_rfl) (fun _ _ _ h => h) (by first | exact Y.fieldAddrJ rfl fo65_0 rfl nqq | exact Y.fieldAddr rfl fo65_0 rfl nqq) ?_
          refine TA.take 7 rfl rfl rfl rfl (by kernel_rfl) (by kernel_rfl) (by kernel_rfl) rfl (by kernel_rfl) (by kernel_rfl) (fun _ _ _ h => h) (Y.load rfl sc9 rfl celD) ?_
          refine TA.as (vS x.1) (by rfl) ?_
          refine TA.take 8 rfl rfl rfl rfl (by kernel_rfl) (by kernel_rfl) (by kernel_rfl) rfl (by kernel_rfl) (by kernel_rfl) (fun _ _ _ h => h) (Y.move rfl rfl) ?_
          refine TA.take 9 rfl rfl rfl rfl (by kernel_rfl) (by kernel_rfl) (by kernel_rfl) rfl (by kernel_rfl) (by kernel_rfl) (fun _ _ _ h => h) (Y.str rfl Try.underlying37 Try.underlying9 Try.underlying5 rfl (A := SA.dat s19) Reads.bytes inn) ?_
          refine TA.take 10 rfl rfl rfl rfl (by kernel_rfl) (by kernel_rfl) (by kernel_rfl) rfl (by kernel_rfl) (by kernel_rfl) (fun _ _ _ h => h) (Y.eqB rfl rfl rfl) ?_
          refine TA.as (.bool (pM (fv xs mid) x)) (by (rw [pM, ← hs19])) ?_
          refine TA.done (by kernel_rfl) ?_
          refine TQ.next ?_
          refine TC.cond rfl (fun c2 => ?_) (fun c2 => ?_)
          · try simp only [decide_eq_true_eq, decide_eq_false_iff_not, Bool.not_eq_true', Bool.not_eq_false', Bool.and_eq_true, Bool.or_eq_true, Nat.not_lt, Nat.not_le, beq_iff_eq, bne_iff_ne] at c2
            have hs : lnS ls mid [] ty src xs = k := by unfold lnS; rw [if_pos ⟨g2_1, c0⟩, ixd.find_take hq hx c2]
            refine TC.seq ?_
            refine TC.region ?_
            refine TL.val rfl rfl rfl (Y.move rfl rfl) ?_
            refine TL.val rfl rfl rfl (Y.assign rfl rfl) ?_
            refine TL.nil ?_
            refine TQ.next ?_
            refine TC.ret ?_
            refine TQ.block_ret ?_
            refine TQ.then_ret ?_
            refine TQ.then_ret ?_
            refine TQ.block_ret ?_
            refine TQ.then_ret ?_
            refine TQ.then_ret ?_
            refine TQ.retE (res1 rfl rfl) (⟨by (rw [hs]) <;> rfl, rfl⟩) ?_
            exact ett
          · try simp only [decide_eq_true_eq, decide_eq_false_iff_not, Bool.not_eq_true', Bool.not_eq_false', Bool.and_eq_true, Bool.or_eq_true, Nat.not_lt, Nat.not_le, beq_iff_eq, bne_iff_ne] at c2
            have hnx := ixd.take_all hq hx c2
            refine TC.skip ?_
            refine TQ.block_normal ?_
            refine TQ.next ?_
            refine TC.region ?_
            refine TL.val rfl rfl rfl (Y.bin rfl rfl rfl (br_addN (n := 1) (by omega))) ?_
            refine TL.val rfl rfl rfl (Y.move rfl rfl) ?_
            refine TL.nil ?_
            refine TQ.loopF (k + 1) (⟨by omega, hnx⟩) (by omega) ⟨rfl, trivial⟩ (by (repeat first | apply Grow.refl | apply Grow.step | apply Grow.app)) ?_ ?_ ?_
            · kernel_rfl
            · rfl
            · simp only [List.cons_append, List.nil_append]
              exact ett
        · try simp only [decide_eq_true_eq, decide_eq_false_iff_not, Bool.not_eq_true', Bool.not_eq_false', Bool.and_eq_true, Bool.or_eq_true, Nat.not_lt, Nat.not_le, beq_iff_eq, bne_iff_ne] at c1
          obtain rfl : k = ls.length := by omega
          rw [List.take_length] at hq
          have hs : lnS ls mid [] ty src xs = -1 := by unfold lnS; rw [if_pos ⟨g2_1, c0⟩, ixd.find_none hq]
          refine TC.exit ?_
          refine TQ.then_exit ?_
          refine TQ.then_exit ?_
          refine TQ.block_exit ?_
          refine TQ.next ?_
          refine TC.seq ?_
          refine TC.region ?_
          refine TL.val rfl rfl rfl (Y.assign rfl rfl) ?_
          refine TL.nil ?_
          refine TQ.next ?_
          refine TC.ret ?_
          refine TQ.then_ret ?_
          refine TQ.retE (res1 rfl rfl) (⟨by (rw [hs]) <;> rfl, rfl⟩) ?_
          exact ett
      · try simp only [decide_eq_true_eq, decide_eq_false_iff_not, Bool.not_eq_true', Bool.not_eq_false', Bool.and_eq_true, Bool.or_eq_true, Nat.not_lt, Nat.not_le, beq_iff_eq, bne_iff_ne] at c0
        refine TC.skip ?_
        refine TQ.meetF (()) ((by rintro ⟨h1, h2⟩; first | exact absurd h2 (by omega) | exact absurd (h1.symm.trans g2_1) (by decide))) trivial (by (repeat first | apply Grow.refl | apply Grow.step | apply Grow.app)) ?_ ?_
        · kernel_rfl
        · simp only [List.cons_append, List.nil_append]
          exact ett
    · try simp only [decide_eq_true_eq, decide_eq_false_iff_not, Bool.not_eq_true', Bool.not_eq_false', Nat.not_lt, Nat.not_le, beq_iff_eq, bne_iff_ne] at g2_1
      refine TL.not rfl rfl rfl ?_
      refine TL.not rfl rfl rfl ?_
      refine TL.not rfl rfl rfl ?_
      refine TL.not rfl rfl rfl ?_
      refine TL.not rfl rfl rfl ?_
      refine TL.val rfl rfl rfl (Y.pick_f rfl rfl rfl) ?_
      refine TL.nil ?_
      refine TQ.next ?_
      refine TC.cond_f rfl ?_
      refine TC.skip ?_
      refine TQ.meetF (()) ((by rintro ⟨h1, h2⟩; first | exact absurd h2 (by omega) | exact absurd (h1.symm.trans g2_1) (by decide))) trivial (by (repeat first | apply Grow.refl | apply Grow.step | apply Grow.app)) ?_ ?_
      · kernel_rfl
      · simp only [List.cons_append, List.nil_append]
        exact ett
  · rintro ⟨⟩ hno F' L' rfl hL'
    simp only [List.cons_append, List.nil_append] at hL'
    subst hL'
    have hb := lnS0 (ls := ls) (ty := ty) (src := src) hno
    refine TC.seq ?_
    refine TC.region ?_
    refine TL.val rfl rfl rfl (Y.move rfl rfl) ?_
    refine TL.val rfl rfl rfl (by first | exact Y.fieldAddrJ rfl fo43_4 rfl nqq | exact Y.fieldAddr rfl fo43_4 rfl nqq) ?_
    refine TL.val rfl rfl rfl (Y.load rfl sc34 rfl cel32) ?_
    refine TL.as (v32 src) (by rfl) ?_
    refine TL.eff rfl rfl rfl (X.call rfl Try.func28 (by kernel_rfl) rfl rfl (Fn.preE (by repeat first | (with_reducible apply Ent.refl) | (apply Ent.cons; case h => first | (with_reducible (repeat first | apply Pull.here | apply Pull.there); done) | (repeat first | apply Pull.here | apply Pull.there))) (latched0_fn rb la ls.length lc mid rid src _))) ?_
    rintro _ _ ⟨rfl, rfl⟩
    refine TL.val rfl rfl rfl (Y.assign rfl rfl) ?_
    refine TL.nil ?_
    refine TQ.next ?_
    refine TC.seq ?_
    refine TC.seq ?_
    refine TC.region ?_
    refine TL.val rfl rfl rfl (Y.move rfl rfl) ?_
    refine TL.val rfl rfl rfl (Y.bin rfl rfl rfl (br_geI (n := 0))) ?_
    refine TL.is false (by first | rfl | (simp only [decide_eq_true_eq, decide_eq_false_iff_not, Bool.not_eq_true', Bool.not_eq_false', Bool.not_eq_eq_eq_not, Bool.not_true, Bool.not_false, Nat.not_lt, Nat.not_le]; omega) | (simp [*]; done) | (simp; omega)) ?_
    refine TL.nil ?_
    refine TQ.next ?_
    refine TC.cond_f rfl ?_
    refine TC.skip ?_
    refine TQ.next ?_
    refine TC.seq ?_
    refine TC.seq ?_
    refine TC.region ?_
    refine TL.val rfl rfl rfl (Y.move rfl rfl) ?_
    refine TL.val rfl rfl rfl (Y.nilCheck rfl rfl) ?_
    refine TL.val rfl rfl rfl (by first | exact Y.fieldAddrJ rfl fo79_0 rfl nqq | exact Y.fieldAddr rfl fo79_0 rfl nqq) ?_
    refine TL.val rfl rfl rfl (Y.load rfl sc22 rfl celD) ?_
    refine TL.as (.slice la ls.length lc) (by rfl) ?_
    refine TL.val rfl rfl rfl (Y.len rfl Try.underlying22 rfl) ?_
    refine TL.val rfl rfl rfl (Y.move rfl rfl) ?_
    refine TL.nil ?_
    refine TQ.next ?_
    refine TC.block ?_
    refine TC.loopF (ι := Nat) [4] (fun k => k ≤ ls.length ∧ ∀ y ∈ ls.take k, pS src y = false) (fun k => [(70, some (vN k))]) (fun k => []) (fun k => ls.length - k) (0) (⟨by omega, fun y hy => by simp at hy⟩) ⟨rfl, trivial⟩ Pulls.nil ?_
    rintro k ⟨hk, hq⟩ F' L' rfl hL'
    simp only [List.cons_append, List.nil_append] at hL'
    subst hL'
    refine TC.seq ?_
    refine TC.region ?_
    refine TL.val rfl rfl rfl (Y.bin rfl rfl rfl (br_ltN)) ?_
    refine TL.nil ?_
    refine TQ.next ?_
    refine TC.seq ?_
    refine TC.cond rfl (fun c4 => ?_) (fun c4 => ?_)
    · try simp only [decide_eq_true_eq, decide_eq_false_iff_not, Bool.not_eq_true', Bool.not_eq_false', Bool.and_eq_true, Bool.or_eq_true, Nat.not_lt, Nat.not_le, beq_iff_eq, bne_iff_ne] at c4
      refine TC.skip ?_
      refine TQ.next ?_
      refine TC.seq ?_
      refine TC.block ?_
      refine TC.seq ?_
      refine TC.region ?_
      refine TL.val rfl rfl rfl (Y.move rfl rfl) ?_
      refine TL.val rfl rfl rfl (Y.assign rfl rfl) ?_
      refine TL.nil ?_
      refine TQ.next ?_
      refine TC.seq ?_
      refine TC.know (dat_some (a := la) (cap := lc) inn (by omega)) ?_
      rintro ⟨g, off, rfl⟩
      obtain ⟨x, hx, hxm⟩ := getS (l := ls) (i := k) (by omega)
      refine TC.to (Ent.trans (Pull.ent (A := SA.dat (⟨some ⟨g, off, none⟩, lc, ls⟩ : Sl LnD)) pul) (Ent.lnSo hxm)) ?_
      obtain ⟨xm, xt, ⟨sa, sc, so⟩, xr⟩ := x
      refine TC.know (dat_cap (a := sa) (cap := sc) (l := so) inn) ?_
      rintro ⟨hd1, hd2, -⟩
      refine TC.region ?_
      refine TL.val rfl rfl rfl (Y.move rfl rfl) ?_
      refine TL.val rfl rfl rfl (Y.nilCheck rfl rfl) ?_
      refine TL.val rfl rfl rfl (by first | exact Y.fieldAddrJ rfl fo79_0 rfl nqq | exact Y.fieldAddr rfl fo79_0 rfl nqq) ?_
      refine TL.val rfl rfl rfl (Y.load rfl sc22 rfl celD) ?_
      refine TL.as (.slice (some ⟨g, off, none⟩) ls.length lc) (by rfl) ?_
      refine TL.val rfl rfl rfl (Y.move rfl rfl) ?_
      refine TL.val rfl rfl rfl (by first | exact Y.indexSlB rfl sl22 rfl rfl (by omega) nqq | exact Y.indexSl rfl sl22 rfl rfl (by omega) nqq) ?_
      refine TL.val rfl rfl rfl (by first | exact Y.fieldAddrJ rfl fo65_2 rfl nqq | exact Y.fieldAddr rfl fo65_2 rfl nqq) ?_
      refine TL.val rfl rfl rfl (Y.load rfl sc35 rfl celD) ?_
      refine TL.as (.slice sa so.length sc) (by rfl) ?_
      refine TL.val rfl rfl rfl (Y.len rfl Try.underlying35 rfl) ?_
      refine TL.val rfl rfl rfl (Y.move rfl rfl) ?_
      refine TL.nil ?_
      refine TQ.next ?_
      refine TC.block ?_
      refine TC.loopF (ι := Nat) [4] (fun j => j ≤ so.length ∧ src ∉ so.take j) (fun j => [(82, some (vN j))]) (fun j => []) (fun j => so.length - j) (0) (⟨by omega, by simp⟩) ⟨rfl, trivial⟩ Pulls.nil ?_
      rintro j ⟨hj, hjq⟩ F' L' rfl hL'
      simp only [List.cons_append, List.nil_append] at hL'
      subst hL'
      refine TC.seq ?_
      refine TC.region ?_
      refine TL.val rfl rfl rfl (Y.bin rfl rfl rfl (br_ltN)) ?_
      refine TL.nil ?_
      refine TQ.next ?_
      refine TC.seq ?_
      refine TC.cond rfl (fun c5 => ?_) (fun c5 => ?_)
      · try simp only [decide_eq_true_eq, decide_eq_false_iff_not, Bool.not_eq_true', Bool.not_eq_false', Bool.and_eq_true, Bool.or_eq_true, Nat.not_lt, Nat.not_le, beq_iff_eq, bne_iff_ne] at c5
        refine TC.skip ?_
        refine TQ.next ?_
        refine TC.seq ?_
        refine TC.block ?_
        refine TC.seq ?_
        refine TC.region ?_
        refine TL.val rfl rfl rfl (Y.move rfl rfl) ?_
        refine TL.val rfl rfl rfl (Y.assign rfl rfl) ?_
        refine TL.nil ?_
        refine TQ.next ?_
        refine TC.seq ?_
        refine TC.know (dat_some (a := sa) (cap := sc) (l := so) inn (by omega)) ?_
        rintro ⟨gs', offs, rfl⟩
        obtain ⟨z, hz, hzm⟩ := getS (l := so) (i := j) (by omega)
        refine TC.draws 14 _ (by kernel_rfl) (by kernel_rfl) (fun _ h => h) ?_
        refine TA.take 0 rfl rfl rfl rfl (by kernel_rfl) (by kernel_rfl) (by kernel_rfl) rfl (by kernel_rfl) (by kernel_rfl) (fun _ _ _ h => h) (Y.move rfl rfl) ?_
        refine TA.take 1 rfl rfl rfl rfl (by kernel_rfl) (by kernel_rfl) (by kernel_rfl) rfl (by kernel_rfl) (by kernel_rfl) (fun _ _ _ h => h) (Y.nilCheck rfl rfl) ?_
        refine TA.take 2 rfl rfl rfl rfl (by kernel_rfl) (by kernel_rfl) (by kernel_rfl) rfl (by kernel_rfl) (by kernel_rfl) (fun _ _ _ h => h) (by first | exact Y.fieldAddrJ rfl fo79_0 rfl nqq | exact Y.fieldAddr rfl fo79_0 rfl nqq) ?_
        refine TA.take 3 rfl rfl rfl rfl (by kernel_rfl) (by kernel_rfl) (by kernel_rfl) rfl (by kernel_rfl) (by kernel_rfl) (fun _ _ _ h => h) (Y.load rfl sc22 rfl celD) ?_
        refine TA.as (.slice (some ⟨g, off, none⟩) ls.length lc) (by rfl) ?_
        refine TA.take 4 rfl rfl rfl rfl (by kernel_rfl) (by kernel_rfl) (by kernel_rfl) rfl (by kernel_rfl) (by kernel_rfl) (fun _ _ _ h => h) (Y.move rfl rfl) ?_
        refine TA.take 5 rfl rfl rfl rfl (by kernel_rfl) (by kernel_rfl) (by kernel_rfl) rfl (by kernel_rfl) (by kernel_rfl) (fun _ _ _ h => h) (by first | exact Y.indexSlB rfl sl22 rfl rfl (by omega) nqq | exact Y.indexSl rfl sl22 rfl rfl (by omega) nqq) ?_
        refine TA.take 6 rfl rfl rfl rfl (by kernel_rfl) (by kernel_rfl) (by kernel_rfl) rfl (by kernel_rfl) (by kernel_rfl) (fun _ _ _ h => h) (by first | exact Y.fieldAddrJ rfl fo65_2 rfl nqq | exact Y.fieldAddr rfl fo65_2 rfl nqq) ?_
        refine TA.take 7 rfl rfl rfl rfl (by kernel_rfl) (by kernel_rfl) (by kernel_rfl) rfl (by kernel_rfl) (by kernel_rfl) (fun _ _ _ h => h) (Y.load rfl sc35 rfl celD) ?_
        refine TA.as (.slice (some ⟨gs', offs, none⟩) so.length sc) (by rfl) ?_
        refine TA.take 8 rfl rfl rfl rfl (by kernel_rfl) (by kernel_rfl) (by kernel_rfl) rfl (by kernel_rfl) (by kernel_rfl) (fun _ _ _ h => h) (Y.move rfl rfl) ?_
        refine TA.take 9 rfl rfl rfl rfl (by kernel_rfl) (by kernel_rfl) (by kernel_rfl) rfl (by kernel_rfl) (by kernel_rfl) (fun _ _ _ h => h) (by first | exact Y.indexSlB rfl sl35 rfl rfl (by omega) nqq | exact Y.indexSl rfl sl35 rfl rfl (by omega) nqq) ?_
        refine TA.take 10 rfl rfl rfl rfl (by kernel_rfl) (by kernel_rfl) (by kernel_rfl) rfl (by kernel_rfl) (by kernel_rfl) (fun _ _ _ h => h) (Y.load rfl sc34 rfl cel32) ?_
        refine TA.as (v32 z) (by rfl) ?_
        refine TA.take 11 rfl rfl rfl rfl (by kernel_rfl) (by kernel_rfl) (by kernel_rfl) rfl (by kernel_rfl) (by kernel_rfl) (fun _ _ _ h => h) (by first | exact Y.fieldAddrJ rfl fo43_4 rfl nqq | exact Y.fieldAddr rfl fo43_4 rfl nqq) ?_
        refine TA.take 12 rfl rfl rfl rfl (by kernel_rfl) (by kernel_rfl) (by kernel_rfl) rfl (by kernel_rfl) (by kernel_rfl) (fun _ _ _ h => h) (Y.load rfl sc34 rfl cel32) ?_
        refine TA.as (v32 src) (by rfl) ?_
        refine TA.take 13 rfl rfl rfl rfl (by kernel_rfl) (by kernel_rfl) (by kernel_rfl) rfl (by kernel_rfl) (by kernel_rfl) (fun _ _ _ h => h) (Y.bin rfl rfl rfl (br_eq32)) ?_
        refine TA.done (by kernel_rfl) ?_
        refine TQ.next ?_
        refine TC.cond rfl (fun c6 => ?_) (fun c6 => ?_)
        · try simp only [decide_eq_true_eq, decide_eq_false_iff_not, Bool.not_eq_true', Bool.not_eq_false', Bool.and_eq_true, Bool.or_eq_true, Nat.not_lt, Nat.not_le, beq_iff_eq, bne_iff_ne] at c6
          have hs : lnS ls mid [] ty src xs = k := by
            have hz2 : z = src := by simpa using c6
            have hp : pS src (xm, xt, ⟨some ⟨gs', offs, none⟩, sc, so⟩, xr) = true := decide_eq_true (by rw [← hz2]; exact hzm)
            rw [hb, ixd.find_take hq hx hp, if_pos (by omega)]
          refine TC.seq ?_
          refine TC.region ?_
          refine TL.val rfl rfl rfl (Y.move rfl rfl) ?_
          refine TL.val rfl rfl rfl (Y.assign rfl rfl) ?_
          refine TL.nil ?_
          refine TQ.next ?_
          refine TC.ret ?_
          refine TQ.block_ret ?_
          refine TQ.then_ret ?_
          refine TQ.then_ret ?_
          refine TQ.block_ret ?_
          refine TQ.block_ret ?_
          refine TQ.then_ret ?_
          refine TQ.then_ret ?_
          refine TQ.block_ret ?_
          refine TQ.then_ret ?_
          refine TQ.retE (res1 rfl rfl) (⟨by (rw [hs]) <;> rfl, rfl⟩) ?_
          exact ett
        · try simp only [decide_eq_true_eq, decide_eq_false_iff_not, Bool.not_eq_true', Bool.not_eq_false', Bool.and_eq_true, Bool.or_eq_true, Nat.not_lt, Nat.not_le, beq_iff_eq, bne_iff_ne] at c6
          have hjx : src ∉ so.take (j + 1) := by
            rw [List.take_add_one, hz]
            intro hm
            rcases List.mem_append.1 hm with hm | hm
            · exact hjq hm
            · simp at hm; subst hm; simp at c6
          refine TC.skip ?_
          refine TQ.block_normal ?_
          refine TQ.next ?_
          refine TC.region ?_
          refine TL.val rfl rfl rfl (Y.bin rfl rfl rfl (br_addN (n := 1) (by omega))) ?_
          refine TL.val rfl rfl rfl (Y.move rfl rfl) ?_
          refine TL.nil ?_
          refine TQ.loopF (j + 1) (⟨by omega, hjx⟩) (by omega) ⟨rfl, trivial⟩ (by (repeat first | apply Grow.refl | apply Grow.step | apply Grow.app)) ?_ ?_ ?_
          · kernel_rfl
          · rfl
          · simp only [List.cons_append, List.nil_append]
            exact ett
      · try simp only [decide_eq_true_eq, decide_eq_false_iff_not, Bool.not_eq_true', Bool.not_eq_false', Bool.and_eq_true, Bool.or_eq_true, Nat.not_lt, Nat.not_le, beq_iff_eq, bne_iff_ne] at c5
        obtain rfl : j = so.length := by omega
        rw [List.take_length] at hjq
        have hnx2 := ixd.take_all hq hx (decide_eq_false hjq)
        refine TC.exit ?_
        refine TQ.then_exit ?_
        refine TQ.then_exit ?_
        refine TQ.block_exit ?_
        refine TQ.block_normal ?_
        refine TQ.next ?_
        refine TC.region ?_
        refine TL.val rfl rfl rfl (Y.bin rfl rfl rfl (br_addN (n := 1) (by omega))) ?_
        refine TL.val rfl rfl rfl (Y.move rfl rfl) ?_
        refine TL.nil ?_
        refine TQ.loopF (k + 1) (⟨by omega, hnx2⟩) (by omega) ⟨rfl, trivial⟩ (by (repeat first | apply Grow.refl | apply Grow.step | apply Grow.app)) ?_ ?_ ?_
        · kernel_rfl
        · rfl
        · simp only [List.cons_append, List.nil_append]
          exact ett
    · try simp only [decide_eq_true_eq, decide_eq_false_iff_not, Bool.not_eq_true', Bool.not_eq_false', Bool.and_eq_true, Bool.or_eq_true, Nat.not_lt, Nat.not_le, beq_iff_eq, bne_iff_ne] at c4
      obtain rfl : k = ls.length := by omega
      rw [List.take_length] at hq
      rw [ixd.find_none hq, if_neg (by decide)] at hb
      refine TC.exit ?_
      refine TQ.then_exit ?_
      refine TQ.then_exit ?_
      refine TQ.block_exit ?_
      refine TQ.next ?_
      refine TC.seq ?_
      refine TC.region ?_
      refine TL.val rfl rfl rfl (Y.assign rfl rfl) ?_
      refine TL.nil ?_
      refine TQ.next ?_
      refine TC.seq ?_
      refine TC.seq ?_
      refine TC.region ?_
      refine TL.val rfl rfl rfl (Y.move rfl rfl) ?_
      refine TL.val rfl rfl rfl (Y.nilCheck rfl rfl) ?_
      refine TL.val rfl rfl rfl (by first | exact Y.fieldAddrJ rfl fo79_0 rfl nqq | exact Y.fieldAddr rfl fo79_0 rfl nqq) ?_
      refine TL.val rfl rfl rfl (Y.load rfl sc22 rfl celD) ?_
      refine TL.as (.slice la ls.length lc) (by rfl) ?_
      refine TL.val rfl rfl rfl (Y.len rfl Try.underlying22 rfl) ?_
      refine TL.val rfl rfl rfl (Y.move rfl rfl) ?_
      refine TL.nil ?_
      refine TQ.next ?_
      refine TC.block ?_
      refine TC.loopF (ι := Nat × Option Nat) [4] (fun i => i.1 ≤ ls.length ∧ FS ls ty i.1 i.2) (fun i => [(107, some (vN i.1)), (11, some (vI (iv i.2)))]) (fun i => []) (fun i => ls.length - i.1) ((0, none)) (⟨Nat.zero_le _, fun y hy => by simp at hy⟩) ⟨rfl, rfl, trivial⟩ Pulls.nil ?_
      rintro ⟨m, r⟩ ⟨hm, hr⟩ F' L' rfl hL'
      simp only [List.cons_append, List.nil_append] at hL'
      subst hL'
      simp only at hm hr ⊢
      refine TC.seq ?_
      refine TC.region ?_
      refine TL.val rfl rfl rfl (Y.bin rfl rfl rfl (br_ltN)) ?_
      refine TL.nil ?_
      refine TQ.next ?_
      refine TC.seq ?_
      refine TC.cond rfl (fun c7 => ?_) (fun c7 => ?_)
      · try simp only [decide_eq_true_eq, decide_eq_false_iff_not, Bool.not_eq_true', Bool.not_eq_false', Bool.and_eq_true, Bool.or_eq_true, Nat.not_lt, Nat.not_le, beq_iff_eq, bne_iff_ne] at c7
        refine TC.skip ?_
        refine TQ.next ?_
        refine TC.seq ?_
        refine TC.block ?_
        refine TC.seq ?_
        refine TC.region ?_
        refine TL.val rfl rfl rfl (Y.move rfl rfl) ?_
        refine TL.val rfl rfl rfl (Y.assign rfl rfl) ?_
        refine TL.nil ?_
        refine TQ.next ?_
        refine TC.seq ?_
        refine TC.know (dat_some (a := la) (cap := lc) inn (by omega)) ?_
        rintro ⟨g, off, rfl⟩
        obtain ⟨x, hx, hxm⟩ := getS (l := ls) (i := m) (by omega)
        refine TC.to (Ent.trans (Pull.ent (A := SA.dat (⟨some ⟨g, off, none⟩, lc, ls⟩ : Sl LnD)) pul) (Ent.lnTy hxm)) ?_
        refine TC.draws 10 [RR rb (some ⟨g, off, none⟩) ls.length lc mid rid, SA.blk b3 (PB p1 ty seq p4 src c (.slice a xs.length cap) y p9) 43, SA.dat (⟨some ⟨g, off, none⟩, lc, ls⟩ : Sl LnD)] (by kernel_rfl) (by kernel_rfl) (by repeat first | exact holds_nil | refine holds_cons inn ?_) ?_
        refine TA.take 0 rfl rfl rfl rfl (by kernel_rfl) (by kernel_rfl) (by kernel_rfl) rfl (by kernel_rfl) (by kernel_rfl) (fun _ _ _ h => h) (Y.move rfl rfl) ?_
        refine TA.take 1 rfl rfl rfl rfl (by kernel_rfl) (by kernel_rfl) (by kernel_rfl) rfl (by kernel_rfl) (by kernel_rfl) (fun _ _ _ h => h) (Y.nilCheck rfl rfl) ?_
        refine TA.take 2 rfl rfl rfl rfl (by kernel_rfl) (by kernel_rfl) (by kernel_rfl) rfl (by kernel_rfl) (by kernel_rfl) (fun _ _ _ h => h) (by first | exact Y.fieldAddrJ rfl fo79_0 rfl nqq | exact Y.fieldAddr rfl fo79_0 rfl nqq) ?_
        refine TA.take 3 rfl rfl rfl rfl (by kernel_rfl) (by kernel_rfl) (by kernel_rfl) rfl (by kernel_rfl) (by kernel_rfl) (fun _ _ _ h => h) (Y.load rfl sc22 rfl celD) ?_
        refine TA.as (.slice (some ⟨g, off, none⟩) ls.length lc) (by rfl) ?_
        refine TA.take 4 rfl rfl rfl rfl (by kernel_rfl) (by kernel_rfl) (by kernel_rfl) rfl (by kernel_rfl) (by kernel_rfl) (fun _ _ _ h => h) (Y.move rfl rfl) ?_
        refine TA.take 5 rfl rfl rfl rfl (by kernel_rfl) (by kernel_rfl) (by kernel_rfl) rfl (by kernel_rfl) (by kernel_rfl) (fun _ _ _ h => h) (by first | exact Y.indexSlB rfl sl22 rfl rfl (by omega) nqq | exact Y.indexSl rfl sl22 rfl rfl (by omega) nqq) ?_
        refine TA.take 6 rfl rfl rfl rfl (by kernel_rfl) (by kernel_rfl) (by kernel_rfl) rfl (by kernel_rfl) (by kernel_rfl) (fun _ _ _ h => h) (Y.loadAgg (m := 4) rfl (by kernel_rfl) rfl (Cels.datAt inn hx rfl) (Dat.len x)) ?_
        refine TA.take 7 rfl rfl rfl rfl (by kernel_rfl) (by kernel_rfl) (by kernel_rfl) rfl (by kernel_rfl) (by kernel_rfl) (fun _ _ _ h => h) (by first | exact Y.fieldAddrJ rfl fo43_1 rfl nqq | exact Y.fieldAddr rfl fo43_1 rfl nqq) ?_
        refine TA.take 8 rfl rfl rfl rfl (by kernel_rfl) (by kernel_rfl) (by kernel_rfl) rfl (by kernel_rfl) (by kernel_rfl) (fun _ _ _ h => h) (Y.load rfl sc3 rfl celN) ?_
        refine TA.as (vI ty) (by rfl) ?_
        refine TA.one 9 (by kernel_rfl) rfl rfl rfl rfl (X.call rfl Try.func40 (by kernel_rfl) rfl rfl (Fn.preE (by repeat first | (with_reducible apply Ent.refl) | (apply Ent.cons; case h => first | (with_reducible (repeat first | apply Pull.here | apply Pull.there); done) | (repeat first | apply Pull.here | apply Pull.there))) (has_fn x ty _))) ?_
        rintro _ _ ⟨rfl, rfl⟩
        refine ⟨(Or.inr (by repeat first | exact holds_nil | refine holds_cons inn ?_)), ?_⟩
        refine TA.done (by kernel_rfl) ?_
        refine TQ.next ?_
        refine TC.cond rfl (fun c8 => ?_) (fun c8 => ?_)
        · try simp only [decide_eq_true_eq, decide_eq_false_iff_not, Bool.not_eq_true', Bool.not_eq_false', Bool.and_eq_true, Bool.or_eq_true, Nat.not_lt, Nat.not_le, beq_iff_eq, bne_iff_ne] at c8
          refine TC.seq ?_
          refine TC.seq ?_
          refine TC.region ?_
          refine TL.val rfl rfl rfl (Y.move rfl rfl) ?_
          refine TL.val rfl rfl rfl (Y.bin rfl rfl rfl (br_geI (n := 0))) ?_
          refine TL.nil ?_
          refine TQ.next ?_
          refine TC.cond rfl (fun c9 => ?_) (fun c9 => ?_)
          · try simp only [decide_eq_true_eq, decide_eq_false_iff_not, Bool.not_eq_true', Bool.not_eq_false', Bool.and_eq_true, Bool.or_eq_true, Nat.not_lt, Nat.not_le, beq_iff_eq, bne_iff_ne] at c9
            obtain ⟨i, rfl⟩ : ∃ i, r = some i := by cases r with
              | none => simp [iv] at c9
              | some i => exact ⟨i, rfl⟩
            have hs : lnS ls mid [] ty src xs = -1 := by rw [hb, FS_two hr hx c8]
            refine TC.seq ?_
            refine TC.region ?_
            refine TL.val rfl rfl rfl (Y.assign rfl rfl) ?_
            refine TL.nil ?_
            refine TQ.next ?_
            refine TC.ret ?_
            refine TQ.then_ret ?_
            refine TQ.block_ret ?_
            refine TQ.then_ret ?_
            refine TQ.then_ret ?_
            refine TQ.block_ret ?_
            refine TQ.then_ret ?_
            refine TQ.retE (res1 rfl rfl) (⟨by (rw [hs]) <;> rfl, rfl⟩) ?_
            exact ett
          · try simp only [decide_eq_true_eq, decide_eq_false_iff_not, Bool.not_eq_true', Bool.not_eq_false', Bool.and_eq_true, Bool.or_eq_true, Nat.not_lt, Nat.not_le, beq_iff_eq, bne_iff_ne] at c9
            obtain rfl : r = none := by cases r with
              | none => rfl
              | some i => simp [iv] at c9
            have hA := FS_hit hr hx c8
            refine TC.skip ?_
            refine TQ.next ?_
            refine TC.region ?_
            refine TL.val rfl rfl rfl (Y.move rfl rfl) ?_
            refine TL.val rfl rfl rfl (Y.assign rfl rfl) ?_
            refine TL.nil ?_
            refine TQ.block_normal ?_
            refine TQ.next ?_
            refine TC.region ?_
            refine TL.val rfl rfl rfl (Y.bin rfl rfl rfl (br_addN (n := 1) (by omega))) ?_
            refine TL.val rfl rfl rfl (Y.move rfl rfl) ?_
            refine TL.nil ?_
            refine TQ.loopF ((by first | (have := hA; exact (m + 1, some m)) | exact (m + 1, r))) ((by first | exact ⟨by simp only; omega, hA⟩ | exact ⟨by simp only; omega, hB⟩)) (by simp only; omega) ⟨rfl, rfl, trivial⟩ (by (repeat first | apply Grow.refl | apply Grow.step | apply Grow.app)) ?_ ?_ ?_
            · kernel_rfl
            · rfl
            · simp only [List.cons_append, List.nil_append]
              exact ett
        · try simp only [decide_eq_true_eq, decide_eq_false_iff_not, Bool.not_eq_true', Bool.not_eq_false', Bool.and_eq_true, Bool.or_eq_true, Nat.not_lt, Nat.not_le, beq_iff_eq, bne_iff_ne] at c8
          have hB := FS_miss hr hx c8
          refine TC.skip ?_
          refine TQ.block_normal ?_
          refine TQ.next ?_
          refine TC.region ?_
          refine TL.val rfl rfl rfl (Y.bin rfl rfl rfl (br_addN (n := 1) (by omega))) ?_
          refine TL.val rfl rfl rfl (Y.move rfl rfl) ?_
          refine TL.nil ?_
          refine TQ.loopF ((by first | (have := hA; exact (m + 1, some m)) | exact (m + 1, r))) ((by first | exact ⟨by simp only; omega, hA⟩ | exact ⟨by simp only; omega, hB⟩)) (by simp only; omega) ⟨rfl, rfl, trivial⟩ (by (repeat first | apply Grow.refl | apply Grow.step | apply Grow.app)) ?_ ?_ ?_
          · kernel_rfl
          · rfl
          · simp only [List.cons_append, List.nil_append]
            exact ett
      · try simp only [decide_eq_true_eq, decide_eq_false_iff_not, Bool.not_eq_true', Bool.not_eq_false', Bool.and_eq_true, Bool.or_eq_true, Nat.not_lt, Nat.not_le, beq_iff_eq, bne_iff_ne] at c7
        obtain rfl : m = ls.length := by omega
        have hs : lnS ls mid [] ty src xs = iv r := by rw [hb, FS_end hr]
        refine TC.exit ?_
        refine TQ.then_exit ?_
        refine TQ.then_exit ?_
        refine TQ.block_exit ?_
        refine TQ.next ?_
        refine TC.seq ?_
        refine TC.region ?_
        refine TL.val rfl rfl rfl (Y.move rfl rfl) ?_
        refine TL.val rfl rfl rfl (Y.assign rfl rfl) ?_
        refine TL.nil ?_
        refine TQ.next ?_
        refine TC.ret ?_
        refine TQ.retE (res1 rfl rfl) (⟨by (rw [hs]) <;> rfl, rfl⟩) ?_
        exact ett
end dm
end Go.Proofs.Ytmdahgmlccmdoaa
