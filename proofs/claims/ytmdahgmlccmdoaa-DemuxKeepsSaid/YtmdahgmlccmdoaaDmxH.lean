/- demux: the document's route, while nothing is latched. -/
import Derived.Test.YtmdahgmlccmdoaaDmxQ
namespace Go.Proofs.Ytmdahgmlccmdoaa
set_option linter.unusedVariables false
set_option linter.unusedSimpArgs false
open Go.RowKit
namespace dm
namespace FxDmxH
set_option maxRecDepth 100000
theorem fo43_1 : Program.fieldOff Try.prog 43 1 = some 1 := by kernel_rfl
theorem fo43_4 : Program.fieldOff Try.prog 43 4 = some 4 := by kernel_rfl
theorem fo65_3 : Program.fieldOff Try.prog 65 3 = some 3 := by kernel_rfl
theorem fo79_0 : Program.fieldOff Try.prog 79 0 = some 0 := by kernel_rfl
theorem fo79_2 : Program.fieldOff Try.prog 79 2 = some 2 := by kernel_rfl
theorem fo79_3 : Program.fieldOff Try.prog 79 3 = some 3 := by kernel_rfl
theorem sc22 : Program.isSc Try.prog 22 = true := by kernel_rfl
theorem sc3 : Program.isSc Try.prog 3 = true := by kernel_rfl
theorem sc34 : Program.isSc Try.prog 34 = true := by kernel_rfl
theorem sc48 : Program.isSc Try.prog 48 = true := by kernel_rfl
theorem sc77 : Program.isSc Try.prog 77 = true := by kernel_rfl
theorem sc9 : Program.isSc Try.prog 9 = true := by kernel_rfl
theorem sl22 : Program.slI Try.prog 22 = some 4 := by kernel_rfl
theorem sl48 : Program.slI Try.prog 48 = some 1 := by kernel_rfl
end FxDmxH
open FxDmxH
theorem fin0 (src : UInt32) (n : Int) (r : ByteArray) : fin [] src n r = (n, r, 0) := by unfold fin; rw [if_neg (by simp)]
theorem gs20 (x : LnD) (rid : Int) (src : UInt32) (xs : List XD) (n : Int) : gs2 x rid [] src xs n = if (fx xs rid).isSome ∧ 0 < rid then (if bstr (fv xs rid) ∈ x.2.2.2.l then (n, bstr (fv xs rid), 0) else (0, .empty, 7)) else (n, .empty, 0) := by
  unfold gs2; rw [fin0, fin0]
  split
  · rfl
  · rw [if_neg (by simp [tget])]
set_option maxHeartbeats 4000000 in
theorem rGuess_fn (p1 : Bool) (ty : Int) (seq : UInt16) (p4 src : UInt32) (c y : Value) (hc : c.oneCell' = true) (hy : y.oneCell' = true) (p9 : Int) (a : Option Addr) (cap : Nat) (xs : List XD) (rb : Nat) (la : Option Addr) (lc : Nat) (ls : List LnD) (mid rid : Int) (L : List SA) :
    Fn Try.prog 27 [pt rb 0, .agg (PB p1 ty seq p4 src c (.slice a xs.length cap) y p9)] (RR rb la ls.length lc mid rid :: SA.dat (⟨la, lc, ls⟩ : Sl LnD) :: SA.dat (⟨a, cap, xs⟩ : Sl XD) :: L)
      (fun v L' => v = .tuple #[vI (gs ls mid rid [] ty src xs).1, vS (gs ls mid rid [] ty src xs).2.1, vI (gs ls mid rid [] ty src xs).2.2] ∧ L' = RR rb la ls.length lc mid rid :: SA.dat (⟨la, lc, ls⟩ : Sl LnD) :: SA.dat (⟨a, cap, xs⟩ : Sl XD) :: L) := by
  refine Fn.of (N := 120) Try.func27 rfl rfl ?_
  intro Xh
  refine TC.know (dat_cap (a := la) (cap := lc) inn) ?_
  rintro ⟨hc1, hc2, -⟩
  obtain ⟨n, hn⟩ : ∃ n, lnS ls mid [] ty src xs = n := ⟨_, rfl⟩
  obtain ⟨hn1, hn2⟩ := lnS_lt (ls := ls) (l := []) (mid := mid) (ty := ty) (src := src) (xs := xs) (fun _ h => by cases h)
  rw [hn] at hn1 hn2
  have hgs : gs ls mid rid [] ty src xs = if n < 0 ∨ ty ∉ (ls.getD n.toNat Dat.dflt).2.1.l then (0, .empty, 7) else gs2 (ls.getD n.toNat Dat.dflt) rid [] src xs n := by unfold gs; rw [hn]
  refine TC.seq ?_
  refine TC.region ?_
  refine TL.eff rfl rfl rfl (X.boxA rfl rfl) ?_
  rintro _ _ ⟨b3, rfl, rfl⟩
  refine TL.val rfl rfl rfl (Y.assign rfl rfl) ?_
  refine TL.val rfl rfl rfl (Y.assign rfl rfl) ?_
  refine TL.val rfl rfl rfl (Y.assign rfl rfl) ?_
  refine TL.nil ?_
  refine TQ.next ?_
  refine TC.seq ?_
  refine TC.region ?_
  refine TL.val rfl rfl rfl (Y.move rfl rfl) ?_
  refine TL.val rfl rfl rfl (Y.loadAgg (m := 9) rfl (by kernel_rfl) rfl (Cels.all (cs := PB p1 ty seq p4 src c (.slice a xs.length cap) y p9) inn) (by rfl)) ?_
  refine TL.as (.agg (PB p1 ty seq p4 src c (.slice a xs.length cap) y p9)) (by rfl) ?_
  refine TL.eff rfl rfl rfl (X.call rfl Try.func39 (by kernel_rfl) rfl rfl (Fn.preE (by repeat first | (with_reducible apply Ent.refl) | (apply Ent.cons; case h => first | (with_reducible (repeat first | apply Pull.here | apply Pull.there); done) | (repeat first | apply Pull.here | apply Pull.there))) (rline_fn p1 ty seq p4 src c y hc hy p9 a cap xs rb la lc ls mid rid _))) ?_
  rintro _ _ ⟨rfl, rfl⟩
  rw [hn]
  refine TL.val rfl rfl rfl (Y.assign rfl rfl) ?_
  refine TL.nil ?_
  refine TQ.next ?_
  refine TC.seq ?_
  refine TC.seq ?_
  refine TC.know (φ := 0 < ls.length → ∃ g off, la = some ⟨g, off, none⟩) (fun w hw hn => dat_some (cap := lc) (a := la) inn hn w hw) ?_
  intro hla
  refine TC.draws 15 [RR rb la ls.length lc mid rid, SA.blk b3 (PB p1 ty seq p4 src c (.slice a xs.length cap) y p9) 43, SA.dat (⟨la, lc, ls⟩ : Sl LnD)] (by kernel_rfl) (by kernel_rfl) (by repeat first | exact holds_nil | refine holds_cons inn ?_) ?_
  refine TA.take 0 rfl rfl rfl rfl (by kernel_rfl) (by kernel_rfl) (by kernel_rfl) rfl (by kernel_rfl) (by kernel_rfl) (fun _ _ _ h => h) (Y.move rfl rfl) ?_
  refine TA.take 1 rfl rfl rfl rfl (by kernel_rfl) (by kernel_rfl) (by kernel_rfl) rfl (by kernel_rfl) (by kernel_rfl) (fun _ _ _ h => h) (Y.bin rfl rfl rfl (br_ltI (n := 0))) ?_
  refine TA.take 2 rfl rfl rfl rfl (by kernel_rfl) (by kernel_rfl) (by kernel_rfl) rfl (by kernel_rfl) (by kernel_rfl) (fun _ _ _ h => h) (Y.move rfl rfl) ?_
  refine TA.case (fun g2_2 => ?_) (fun g2_2 => ?_)
  · try simp only [decide_eq_true_eq, decide_eq_false_iff_not, Bool.not_eq_true', Bool.not_eq_false', Nat.not_lt, Nat.not_le, beq_iff_eq, bne_iff_ne] at g2_2
    first
    | (have hk : n.toNat < ls.length := by omega
       have hn0 : 0 ≤ n := by omega
       obtain ⟨g, off, rfl⟩ := hla (by omega)
       obtain ⟨x, hx, hxm⟩ := getS hk
       have hd : ls.getD n.toNat Dat.dflt = x := by rw [List.getD_eq_getElem?_getD, hx]; rfl
       refine TA.to (Ent.trans (Pull.ent (A := SA.dat (⟨some ⟨g, off, none⟩, lc, ls⟩ : Sl LnD)) pul) (Ent.trans (Ent.lnTy hxm) (Ent.trans Ent.swap (Ent.lnRi hxm)))) ?_)
    | skip
    refine TA.not 3 rfl rfl rfl rfl (by kernel_rfl) (by kernel_rfl) (by kernel_rfl) rfl (fun _ _ _ h => h) ?_
    refine TA.not 4 rfl rfl rfl rfl (by kernel_rfl) (by kernel_rfl) (by kernel_rfl) rfl (fun _ _ _ h => h) ?_
    refine TA.not 5 rfl rfl rfl rfl (by kernel_rfl) (by kernel_rfl) (by kernel_rfl) rfl (fun _ _ _ h => h) ?_
    refine TA.not 6 rfl rfl rfl rfl (by kernel_rfl) (by kernel_rfl) (by kernel_rfl) rfl (fun _ _ _ h => h) ?_
    refine TA.not 7 rfl rfl rfl rfl (by kernel_rfl) (by kernel_rfl) (by kernel_rfl) rfl (fun _ _ _ h => h) ?_
    refine TA.not 8 rfl rfl rfl rfl (by kernel_rfl) (by kernel_rfl) (by kernel_rfl) rfl (fun _ _ _ h => h) ?_
    refine TA.not 9 rfl rfl rfl rfl (by kernel_rfl) (by kernel_rfl) (by kernel_rfl) rfl (fun _ _ _ h => h) ?_
    refine TA.not 10 rfl rfl rfl rfl (by kernel_rfl) (by kernel_rfl) (by kernel_rfl) rfl (fun _ _ _ h => h) ?_
    refine TA.not 11 rfl rfl rfl rfl (by kernel_rfl) (by kernel_rfl) (by kernel_rfl) rfl (fun _ _ _ h => h) ?_
    refine TA.not 12 rfl rfl rfl rfl (by kernel_rfl) (by kernel_rfl) (by kernel_rfl) rfl (fun _ _ _ h => h) ?_
    refine TA.not 13 rfl rfl rfl rfl (by kernel_rfl) (by kernel_rfl) (by kernel_rfl) rfl (fun _ _ _ h => h) ?_
    refine TA.take 14 rfl rfl rfl rfl (by kernel_rfl) (by kernel_rfl) (by kernel_rfl) rfl (by kernel_rfl) (by kernel_rfl) (fun _ _ _ h => h) (Y.pick_t rfl rfl rfl) ?_
    refine TA.done (by kernel_rfl) ?_
    refine TQ.next ?_
    refine TC.cond_t rfl ?_
    refine TC.seq ?_
    have hs : gs ls mid rid [] ty src xs = (0, .empty, 7) := by
      rw [hgs, if_pos]
      first
      | exact Or.inl g2_2
      | exact Or.inr (by rw [hd]; simpa [pT] using c0)
    refine TC.region ?_
    refine TL.val rfl rfl rfl (Y.assign rfl rfl) ?_
    refine TL.val rfl rfl rfl (Y.assign rfl rfl) ?_
    refine TL.val rfl rfl rfl (Y.assign rfl rfl) ?_
    refine TL.nil ?_
    refine TQ.next ?_
    refine TC.ret ?_
    refine TQ.then_ret ?_
    refine TQ.retE (resL rfl (Res.tmp rfl (Res.tmp rfl (Res.tmp rfl Res.nil)))) (⟨by (rw [hs]) <;> rfl, rfl⟩) ?_
    exact ett
  · try simp only [decide_eq_true_eq, decide_eq_false_iff_not, Bool.not_eq_true', Bool.not_eq_false', Nat.not_lt, Nat.not_le, beq_iff_eq, bne_iff_ne] at g2_2
    first
    | (have hk : n.toNat < ls.length := by omega
       have hn0 : 0 ≤ n := by omega
       obtain ⟨g, off, rfl⟩ := hla (by omega)
       obtain ⟨x, hx, hxm⟩ := getS hk
       have hd : ls.getD n.toNat Dat.dflt = x := by rw [List.getD_eq_getElem?_getD, hx]; rfl
       refine TA.to (Ent.trans (Pull.ent (A := SA.dat (⟨some ⟨g, off, none⟩, lc, ls⟩ : Sl LnD)) pul) (Ent.trans (Ent.lnTy hxm) (Ent.trans Ent.swap (Ent.lnRi hxm)))) ?_)
    | skip
    refine TA.take 3 rfl rfl rfl rfl (by kernel_rfl) (by kernel_rfl) (by kernel_rfl) rfl (by kernel_rfl) (by kernel_rfl) (fun _ _ _ h => h) (Y.move rfl rfl) ?_
    refine TA.take 4 rfl rfl rfl rfl (by kernel_rfl) (by kernel_rfl) (by kernel_rfl) rfl (by kernel_rfl) (by kernel_rfl) (fun _ _ _ h => h) (Y.nilCheck rfl rfl) ?_
    refine TA.take 5 rfl rfl rfl rfl (by kernel_rfl) (by kernel_rfl) (by kernel_rfl) rfl (by kernel_rfl) (by kernel_rfl) (fun _ _ _ h => h) (by first | exact Y.fieldAddrJ rfl fo79_0 rfl nqq | exact Y.fieldAddr rfl fo79_0 rfl nqq) ?_
    refine TA.take 6 rfl rfl rfl rfl (by kernel_rfl) (by kernel_rfl) (by kernel_rfl) rfl (by kernel_rfl) (by kernel_rfl) (fun _ _ _ h => h) (Y.load rfl sc22 rfl celD) ?_
    refine TA.as (.slice (some ⟨g, off, none⟩) ls.length lc) (by rfl) ?_
    refine TA.take 7 rfl rfl rfl rfl (by kernel_rfl) (by kernel_rfl) (by kernel_rfl) rfl (by kernel_rfl) (by kernel_rfl) (fun _ _ _ h => h) (Y.move rfl rfl) ?_
    refine TA.as (vN n.toNat) (by (show vI _ = vI _; congr 1; omega)) ?_
    refine TA.take 8 rfl rfl rfl rfl (by kernel_rfl) (by kernel_rfl) (by kernel_rfl) rfl (by kernel_rfl) (by kernel_rfl) (fun _ _ _ h => h) (by first | exact Y.indexSlB rfl sl22 rfl rfl (by omega) nqq | exact Y.indexSl rfl sl22 rfl rfl (by omega) nqq) ?_
    refine TA.take 9 rfl rfl rfl rfl (by kernel_rfl) (by kernel_rfl) (by kernel_rfl) rfl (by kernel_rfl) (by kernel_rfl) (fun _ _ _ h => h) (Y.loadAgg (m := 4) rfl (by kernel_rfl) rfl (Cels.datAt inn hx rfl) (Dat.len x)) ?_
    refine TA.take 10 rfl rfl rfl rfl (by kernel_rfl) (by kernel_rfl) (by kernel_rfl) rfl (by kernel_rfl) (by kernel_rfl) (fun _ _ _ h => h) (by first | exact Y.fieldAddrJ rfl fo43_1 rfl nqq | exact Y.fieldAddr rfl fo43_1 rfl nqq) ?_
    refine TA.take 11 rfl rfl rfl rfl (by kernel_rfl) (by kernel_rfl) (by kernel_rfl) rfl (by kernel_rfl) (by kernel_rfl) (fun _ _ _ h => h) (Y.load rfl sc3 rfl celN) ?_
    refine TA.as (vI ty) (by rfl) ?_
    refine TA.one 12 (by kernel_rfl) rfl rfl rfl rfl (X.call rfl Try.func40 (by kernel_rfl) rfl rfl (Fn.preE (by repeat first | (with_reducible apply Ent.refl) | (apply Ent.cons; case h => first | (with_reducible (repeat first | apply Pull.here | apply Pull.there); done) | (repeat first | apply Pull.here | apply Pull.there))) (has_fn x ty _))) ?_
    rintro _ _ ⟨rfl, rfl⟩
    refine ⟨(Or.inr (by repeat first | exact holds_nil | refine holds_cons inn ?_)), ?_⟩
    refine TA.take 13 rfl rfl rfl rfl (by kernel_rfl) (by kernel_rfl) (by kernel_rfl) rfl (by kernel_rfl) (by kernel_rfl) (fun _ _ _ h => h) (Y.not rfl rfl) ?_
    refine TA.take 14 rfl rfl rfl rfl (by kernel_rfl) (by kernel_rfl) (by kernel_rfl) rfl (by kernel_rfl) (by kernel_rfl) (fun _ _ _ h => h) (Y.pick_f rfl rfl rfl) ?_
    refine TA.done (by kernel_rfl) ?_
    refine TQ.next ?_
    refine TC.cond rfl (fun c0 => ?_) (fun c0 => ?_)
    · try simp only [decide_eq_true_eq, decide_eq_false_iff_not, Bool.not_eq_true', Bool.not_eq_false', Bool.and_eq_true, Bool.or_eq_true, Nat.not_lt, Nat.not_le, beq_iff_eq, bne_iff_ne] at c0
      refine TC.seq ?_
      have hs : gs ls mid rid [] ty src xs = (0, .empty, 7) := by
        rw [hgs, if_pos]
        first
        | exact Or.inl g2_2
        | exact Or.inr (by rw [hd]; simpa [pT] using c0)
      refine TC.region ?_
      refine TL.val rfl rfl rfl (Y.assign rfl rfl) ?_
      refine TL.val rfl rfl rfl (Y.assign rfl rfl) ?_
      refine TL.val rfl rfl rfl (Y.assign rfl rfl) ?_
      refine TL.nil ?_
      refine TQ.next ?_
      refine TC.ret ?_
      refine TQ.then_ret ?_
      refine TQ.retE (resL rfl (Res.tmp rfl (Res.tmp rfl (Res.tmp rfl Res.nil)))) (⟨by (rw [hs]) <;> rfl, rfl⟩) ?_
      exact ett
    · try simp only [decide_eq_true_eq, decide_eq_false_iff_not, Bool.not_eq_true', Bool.not_eq_false', Bool.and_eq_true, Bool.or_eq_true, Nat.not_lt, Nat.not_le, beq_iff_eq, bne_iff_ne] at c0
      have hgs2 : gs ls mid rid [] ty src xs = gs2 x rid [] src xs n := by
        rw [hgs, if_neg, hd]
        rintro (h | h)
        · omega
        · rw [hd] at h; exact h (by simpa [pT] using c0)
      rw [gs20] at hgs2
      refine TC.skip ?_
      refine TQ.next ?_
      refine TC.seq ?_
      refine TC.region ?_
      refine TL.val rfl rfl rfl (Y.move rfl rfl) ?_
      refine TL.val rfl rfl rfl (by first | exact Y.fieldAddrJ rfl fo43_4 rfl nqq | exact Y.fieldAddr rfl fo43_4 rfl nqq) ?_
      refine TL.val rfl rfl rfl (Y.load rfl sc34 rfl cel32) ?_
      refine TL.as (v32 src) (by rfl) ?_
      refine TL.eff rfl rfl rfl (X.call rfl Try.func28 (by kernel_rfl) rfl rfl (Fn.preE (by repeat first | (with_reducible apply Ent.refl) | (apply Ent.cons; case h => first | (with_reducible (repeat first | apply Pull.here | apply Pull.there); done) | (repeat first | apply Pull.here | apply Pull.there))) (latched0_fn rb (some ⟨g, off, none⟩) ls.length lc mid rid src _))) ?_
      rintro _ _ ⟨rfl, rfl⟩
      refine TL.val rfl rfl rfl (Y.assign rfl rfl) ?_
      refine TL.nil ?_
      refine TQ.next ?_
      refine TC.seq ?_
      refine TC.region ?_
      refine TL.val rfl rfl rfl (Y.assign rfl rfl) ?_
      refine TL.nil ?_
      refine TQ.next ?_
      refine TC.seq ?_
      refine TC.draws 11 [RR rb (some ⟨g, off, none⟩) ls.length lc mid rid, SA.blk b3 (PB p1 ty seq p4 src c (.slice a xs.length cap) y p9) 43] (by kernel_rfl) (by kernel_rfl) (by repeat first | exact holds_nil | refine holds_cons inn ?_) ?_
      refine TA.take 0 rfl rfl rfl rfl (by kernel_rfl) (by kernel_rfl) (by kernel_rfl) rfl (by kernel_rfl) (by kernel_rfl) (fun _ _ _ h => h) (Y.loadAgg (m := 9) rfl (by kernel_rfl) rfl (Cels.all (cs := PB p1 ty seq p4 src c (.slice a xs.length cap) y p9) inn) (by rfl)) ?_
      refine TA.as (.agg (PB p1 ty seq p4 src c (.slice a xs.length cap) y p9)) (by rfl) ?_
      refine TA.take 1 rfl rfl rfl rfl (by kernel_rfl) (by kernel_rfl) (by kernel_rfl) rfl (by kernel_rfl) (by kernel_rfl) (fun _ _ _ h => h) (Y.move rfl rfl) ?_
      refine TA.take 2 rfl rfl rfl rfl (by kernel_rfl) (by kernel_rfl) (by kernel_rfl) rfl (by kernel_rfl) (by kernel_rfl) (fun _ _ _ h => h) (Y.nilCheck rfl rfl) ?_
      refine TA.take 3 rfl rfl rfl rfl (by kernel_rfl) (by kernel_rfl) (by kernel_rfl) rfl (by kernel_rfl) (by kernel_rfl) (fun _ _ _ h => h) (by first | exact Y.fieldAddrJ rfl fo79_2 rfl nqq | exact Y.fieldAddr rfl fo79_2 rfl nqq) ?_
      refine TA.take 4 rfl rfl rfl rfl (by kernel_rfl) (by kernel_rfl) (by kernel_rfl) rfl (by kernel_rfl) (by kernel_rfl) (fun _ _ _ h => h) (Y.load rfl sc3 rfl celN) ?_
      refine TA.as (vI rid) (by rfl) ?_
      refine TA.one 5 (by kernel_rfl) rfl rfl rfl rfl (X.call rfl Try.func41 (by kernel_rfl) rfl rfl (Fn.preE (by repeat first | (with_reducible apply Ent.refl) | (apply Ent.cons; case h => first | (with_reducible (repeat first | apply Pull.here | apply Pull.there); done) | (repeat first | apply Pull.here | apply Pull.there))) (rFind_fn p1 ty seq p4 src c y hc hy p9 a cap xs rid _))) ?_
      rintro _ _ ⟨s42, rfl, hs42, rfl⟩
      refine ⟨(Or.inr (by repeat first | exact holds_nil | refine holds_cons inn ?_)), ?_⟩
      refine TA.take 6 rfl rfl rfl rfl (by kernel_rfl) (by kernel_rfl) (by kernel_rfl) rfl (by kernel_rfl) (by kernel_rfl) (fun _ _ _ h => h) (Y.move rfl rfl) ?_
      refine TA.take 7 rfl rfl rfl rfl (by kernel_rfl) (by kernel_rfl) (by kernel_rfl) rfl (by kernel_rfl) (by kernel_rfl) (fun _ _ _ h => h) (Y.extract rfl rfl rfl) ?_
      refine TA.as (s42.v) (by rfl) ?_
      refine TA.take 8 rfl rfl rfl rfl (by kernel_rfl) (by kernel_rfl) (by kernel_rfl) rfl (by kernel_rfl) (by kernel_rfl) (fun _ _ _ h => h) (Y.extract rfl rfl rfl) ?_
      refine TA.as (.bool (fx xs rid).isSome) (by rfl) ?_
      refine TA.take 9 rfl rfl rfl rfl (by kernel_rfl) (by kernel_rfl) (by kernel_rfl) rfl (by kernel_rfl) (by kernel_rfl) (fun _ _ _ h => h) (Y.assign rfl rfl) ?_
      refine TA.take 10 rfl rfl rfl rfl (by kernel_rfl) (by kernel_rfl) (by kernel_rfl) rfl (by kernel_rfl) (by kernel_rfl) (fun _ _ _ h => h) (Y.assign rfl rfl) ?_
      refine TA.done (by kernel_rfl) ?_
      refine TQ.next ?_
      refine TC.cutF (ι := ByteArray) [4, 5, 6] (fun i => gs ls mid rid [] ty src xs = (n, i, 0)) (fun i => [(9, some (vS i))]) (fun i => []) (Ao := []) Pulls.nil ?_ ?_
      · rintro L' hL'
        simp only [List.cons_append, List.nil_append] at hL'
        subst hL'
        refine TC.seq ?_
        refine TC.region ?_
        refine TL.val rfl rfl rfl (Y.move rfl rfl) ?_
        refine TL.val rfl rfl rfl (Y.move rfl rfl) ?_
        refine TL.case (fun g7_1 => ?_) (fun g7_1 => ?_)
        · try simp only [decide_eq_true_eq, decide_eq_false_iff_not, Bool.not_eq_true', Bool.not_eq_false', Nat.not_lt, Nat.not_le, beq_iff_eq, bne_iff_ne] at g7_1
          refine TL.valG rfl rfl rfl (Y.move rfl rfl) ?_
          refine TL.valG rfl rfl rfl (Y.nilCheck rfl rfl) ?_
          refine TL.valG rfl rfl rfl (by first | exact Y.fieldAddrJ rfl fo79_2 rfl nqq | exact Y.fieldAddr rfl fo79_2 rfl nqq) ?_
          refine TL.valG rfl rfl rfl (Y.load rfl sc3 rfl celN) ?_
          refine TL.as (vI rid) (by rfl) ?_
          refine TL.valG rfl rfl rfl (Y.bin rfl rfl rfl (br_gtI (n := 0))) ?_
          refine TL.val rfl rfl rfl (Y.pick_t rfl rfl rfl) ?_
          refine TL.nil ?_
          refine TQ.next ?_
          refine TC.cond rfl (fun c1 => ?_) (fun c1 => ?_)
          · try simp only [decide_eq_true_eq, decide_eq_false_iff_not, Bool.not_eq_true', Bool.not_eq_false', Bool.and_eq_true, Bool.or_eq_true, Nat.not_lt, Nat.not_le, beq_iff_eq, bne_iff_ne] at c1
            refine TC.seq ?_
            refine TC.region ?_
            refine TL.val rfl rfl rfl (Y.move rfl rfl) ?_
            refine TL.val rfl rfl rfl (Y.str rfl Try.underlying37 Try.underlying9 Try.underlying5 rfl (A := SA.dat s42) Reads.bytes inn) ?_
            refine TL.as (vS (bstr (fv xs rid))) (by (rw [hs42])) ?_
            refine TL.val rfl rfl rfl (Y.assign rfl rfl) ?_
            refine TL.nil ?_
            refine TQ.next ?_
            refine TC.seq ?_
            refine TC.region ?_
            refine TL.val rfl rfl rfl (Y.assign rfl rfl) ?_
            refine TL.nil ?_
            refine TQ.next ?_
            refine TC.seq ?_
            refine TC.seq ?_
            obtain ⟨xm, xt, xs', ⟨ra, rc, rs⟩⟩ := x
            refine TC.know (dat_cap (a := ra) (cap := rc) (l := rs) inn) ?_
            rintro ⟨hd1, hd2, -⟩
            refine TC.region ?_
            refine TL.val rfl rfl rfl (Y.move rfl rfl) ?_
            refine TL.val rfl rfl rfl (Y.nilCheck rfl rfl) ?_
            refine TL.val rfl rfl rfl (by first | exact Y.fieldAddrJ rfl fo79_0 rfl nqq | exact Y.fieldAddr rfl fo79_0 rfl nqq) ?_
            refine TL.val rfl rfl rfl (Y.load rfl sc22 rfl celD) ?_
            refine TL.as (.slice (some ⟨g, off, none⟩) ls.length lc) (by rfl) ?_
            refine TL.val rfl rfl rfl (Y.move rfl rfl) ?_
            refine TL.as (vN n.toNat) (by (show vI _ = vI _; congr 1; omega)) ?_
            refine TL.val rfl rfl rfl (by first | exact Y.indexSlB rfl sl22 rfl rfl (by omega) nqq | exact Y.indexSl rfl sl22 rfl rfl (by omega) nqq) ?_
            refine TL.val rfl rfl rfl (by first | exact Y.fieldAddrJ rfl fo65_3 rfl nqq | exact Y.fieldAddr rfl fo65_3 rfl nqq) ?_
            refine TL.val rfl rfl rfl (Y.load rfl sc48 rfl celD) ?_
            refine TL.as (.slice ra rs.length rc) (by rfl) ?_
            refine TL.val rfl rfl rfl (Y.len rfl Try.underlying48 rfl) ?_
            refine TL.val rfl rfl rfl (Y.move rfl rfl) ?_
            refine TL.nil ?_
            refine TQ.next ?_
            refine TC.block ?_
            refine TC.loopF (ι := Nat × Bool) [] (fun i => i.1 ≤ rs.length ∧ i.2 = decide (bstr (fv xs rid) ∈ rs.take i.1)) (fun i => [(64, some (vN i.1)), (12, some (.bool i.2))]) (fun i => []) (fun i => rs.length - i.1) ((0, false)) (⟨Nat.zero_le _, by simp⟩) ⟨rfl, rfl, trivial⟩ Pulls.nil ?_
            rintro ⟨j, bo⟩ ⟨hj, hbo⟩ F' L' rfl hL'
            simp only [List.cons_append, List.nil_append] at hL'
            subst hL'
            simp only at hj hbo ⊢
            refine TC.seq ?_
            refine TC.region ?_
            refine TL.val rfl rfl rfl (Y.bin rfl rfl rfl (br_ltN)) ?_
            refine TL.nil ?_
            refine TQ.next ?_
            refine TC.seq ?_
            refine TC.cond rfl (fun c2 => ?_) (fun c2 => ?_)
            · try simp only [decide_eq_true_eq, decide_eq_false_iff_not, Bool.not_eq_true', Bool.not_eq_false', Bool.and_eq_true, Bool.or_eq_true, Nat.not_lt, Nat.not_le, beq_iff_eq, bne_iff_ne] at c2
              refine TC.skip ?_
              refine TQ.next ?_
              refine TC.seq ?_
              refine TC.block ?_
              refine TC.seq ?_
              refine TC.region ?_
              refine TL.val rfl rfl rfl (Y.move rfl rfl) ?_
              refine TL.val rfl rfl rfl (Y.assign rfl rfl) ?_
              refine TL.nil ?_
              refine TQ.next ?_
              refine TC.know (dat_some (a := ra) (cap := rc) (l := rs) inn (by omega)) ?_
              rintro ⟨gr, offr, rfl⟩
              obtain ⟨z, hz, -⟩ := getS (l := rs) (i := j) (by omega)
              have hnx : (bo || (z == bstr (fv xs rid))) = decide (bstr (fv xs rid) ∈ rs.take (j + 1)) := by
                rw [hbo, List.take_add_one, hz, Bool.eq_iff_iff]
                simp only [Option.toList_some, Bool.or_eq_true, decide_eq_true_eq, beq_iff_eq, List.mem_append, List.mem_singleton]
                constructor
                · rintro (h | h); exact Or.inl h; exact Or.inr h.symm
                · rintro (h | h); exact Or.inl h; exact Or.inr h.symm
              refine TC.region ?_
              refine TL.val rfl rfl rfl (Y.move rfl rfl) ?_
              refine TL.val rfl rfl rfl (Y.move rfl rfl) ?_
              refine TL.case (fun g13_1 => ?_) (fun g13_1 => ?_)
              · try simp only [decide_eq_true_eq, decide_eq_false_iff_not, Bool.not_eq_true', Bool.not_eq_false', Nat.not_lt, Nat.not_le, beq_iff_eq, bne_iff_ne] at g13_1
                refine TL.not rfl rfl rfl ?_
                refine TL.not rfl rfl rfl ?_
                refine TL.not rfl rfl rfl ?_
                refine TL.not rfl rfl rfl ?_
                refine TL.not rfl rfl rfl ?_
                refine TL.not rfl rfl rfl ?_
                refine TL.not rfl rfl rfl ?_
                refine TL.not rfl rfl rfl ?_
                refine TL.not rfl rfl rfl ?_
                refine TL.not rfl rfl rfl ?_
                refine TL.not rfl rfl rfl ?_
                refine TL.not rfl rfl rfl ?_
                refine TL.not rfl rfl rfl ?_
                refine TL.val rfl rfl rfl (Y.pick_t rfl rfl rfl) ?_
                refine TL.val rfl rfl rfl (Y.assign rfl rfl) ?_
                refine TL.nil ?_
                refine TQ.block_normal ?_
                refine TQ.next ?_
                refine TC.region ?_
                refine TL.val rfl rfl rfl (Y.bin rfl rfl rfl (br_addN (n := 1) (by omega))) ?_
                refine TL.val rfl rfl rfl (Y.move rfl rfl) ?_
                refine TL.nil ?_
                refine TQ.loopF ((j + 1, bo || (z == bstr (fv xs rid)))) (⟨by simp only; omega, hnx⟩) (by simp only; omega) ⟨rfl, by (show some (Value.bool _) = some (Value.bool _); simp [g13_1]), trivial⟩ (by (repeat first | apply Grow.refl | apply Grow.step | apply Grow.app)) ?_ ?_ ?_
                · kernel_rfl
                · rfl
                · simp only [List.cons_append, List.nil_append]
                  exact ett
              · try simp only [decide_eq_true_eq, decide_eq_false_iff_not, Bool.not_eq_true', Bool.not_eq_false', Nat.not_lt, Nat.not_le, beq_iff_eq, bne_iff_ne] at g13_1
                refine TL.valG rfl rfl rfl (Y.move rfl rfl) ?_
                refine TL.valG rfl rfl rfl (Y.nilCheck rfl rfl) ?_
                refine TL.valG rfl rfl rfl (by first | exact Y.fieldAddrJ rfl fo79_0 rfl nqq | exact Y.fieldAddr rfl fo79_0 rfl nqq) ?_
                refine TL.valG rfl rfl rfl (Y.load rfl sc22 rfl celD) ?_
                refine TL.as (.slice (some ⟨g, off, none⟩) ls.length lc) (by rfl) ?_
                refine TL.valG rfl rfl rfl (Y.move rfl rfl) ?_
                refine TL.as (vN n.toNat) (by (show vI _ = vI _; congr 1; omega)) ?_
                refine TL.valG rfl rfl rfl (by first | exact Y.indexSlB rfl sl22 rfl rfl (by omega) nqq | exact Y.indexSl rfl sl22 rfl rfl (by omega) nqq) ?_
                refine TL.valG rfl rfl rfl (by first | exact Y.fieldAddrJ rfl fo65_3 rfl nqq | exact Y.fieldAddr rfl fo65_3 rfl nqq) ?_
                refine TL.valG rfl rfl rfl (Y.load rfl sc48 rfl celD) ?_
                refine TL.as (.slice (some ⟨gr, offr, none⟩) rs.length rc) (by rfl) ?_
                refine TL.valG rfl rfl rfl (Y.move rfl rfl) ?_
                refine TL.valG rfl rfl rfl (by first | exact Y.indexSlB rfl sl48 rfl rfl (by omega) nqq | exact Y.indexSl rfl sl48 rfl rfl (by omega) nqq) ?_
                refine TL.valG rfl rfl rfl (Y.load rfl sc9 rfl celD) ?_
                refine TL.as (vS z) (by rfl) ?_
                refine TL.valG rfl rfl rfl (Y.move rfl rfl) ?_
                refine TL.valG rfl rfl rfl (Y.eqB rfl rfl rfl) ?_
                refine TL.val rfl rfl rfl (Y.pick_f rfl rfl rfl) ?_
                refine TL.val rfl rfl rfl (Y.assign rfl rfl) ?_
                refine TL.nil ?_
                refine TQ.block_normal ?_
                refine TQ.next ?_
                refine TC.region ?_
                refine TL.val rfl rfl rfl (Y.bin rfl rfl rfl (br_addN (n := 1) (by omega))) ?_
                refine TL.val rfl rfl rfl (Y.move rfl rfl) ?_
                refine TL.nil ?_
                refine TQ.loopF ((j + 1, bo || (z == bstr (fv xs rid)))) (⟨by simp only; omega, hnx⟩) (by simp only; omega) ⟨rfl, by (show some (Value.bool _) = some (Value.bool _); simp [g13_1]), trivial⟩ (by (repeat first | apply Grow.refl | apply Grow.step | apply Grow.app)) ?_ ?_ ?_
                · kernel_rfl
                · rfl
                · simp only [List.cons_append, List.nil_append]
                  exact ett
            · try simp only [decide_eq_true_eq, decide_eq_false_iff_not, Bool.not_eq_true', Bool.not_eq_false', Bool.and_eq_true, Bool.or_eq_true, Nat.not_lt, Nat.not_le, beq_iff_eq, bne_iff_ne] at c2
              obtain rfl : j = rs.length := by omega
              rw [List.take_length] at hbo
              refine TC.exit ?_
              refine TQ.then_exit ?_
              refine TQ.then_exit ?_
              refine TQ.block_exit ?_
              refine TQ.next ?_
              refine TC.seq ?_
              refine TC.region ?_
              refine TL.val rfl rfl rfl (Y.move rfl rfl) ?_
              refine TL.val rfl rfl rfl (Y.not rfl rfl) ?_
              refine TL.nil ?_
              refine TQ.next ?_
              refine TC.cond rfl (fun c3 => ?_) (fun c3 => ?_)
              · try simp only [decide_eq_true_eq, decide_eq_false_iff_not, Bool.not_eq_true', Bool.not_eq_false', Bool.and_eq_true, Bool.or_eq_true, Nat.not_lt, Nat.not_le, beq_iff_eq, bne_iff_ne] at c3
                refine TC.seq ?_
                have hs : gs ls mid rid [] ty src xs = (0, .empty, 7) := by rw [hgs2, if_pos ⟨g7_1, c1⟩, if_neg (by intro h; rw [hbo, decide_eq_true h] at c3; simp at c3)]
                refine TC.region ?_
                refine TL.val rfl rfl rfl (Y.assign rfl rfl) ?_
                refine TL.val rfl rfl rfl (Y.assign rfl rfl) ?_
                refine TL.val rfl rfl rfl (Y.assign rfl rfl) ?_
                refine TL.nil ?_
                refine TQ.next ?_
                refine TC.ret ?_
                refine TQ.then_ret ?_
                refine TQ.retE (resL rfl (Res.tmp rfl (Res.tmp rfl (Res.tmp rfl Res.nil)))) (⟨by (rw [hs]) <;> rfl, rfl⟩) ?_
                exact ett
              · try simp only [decide_eq_true_eq, decide_eq_false_iff_not, Bool.not_eq_true', Bool.not_eq_false', Bool.and_eq_true, Bool.or_eq_true, Nat.not_lt, Nat.not_le, beq_iff_eq, bne_iff_ne] at c3
                have hA : gs ls mid rid [] ty src xs = (n, bstr (fv xs rid), 0) := by
                  rw [hgs2, if_pos ⟨g7_1, c1⟩, if_pos]
                  rw [hbo] at c3
                  simpa using c3
                refine TC.skip ?_
                refine TQ.meetF ((by first | (have := hA; exact bstr (fv xs rid)) | exact .empty)) ((by first | exact hA | exact hD)) ⟨rfl, trivial⟩ (by (repeat first | apply Grow.refl | apply Grow.step | apply Grow.app)) ?_ ?_
                · kernel_rfl
                · simp only [List.cons_append, List.nil_append]
                  exact ett
          · try simp only [decide_eq_true_eq, decide_eq_false_iff_not, Bool.not_eq_true', Bool.not_eq_false', Bool.and_eq_true, Bool.or_eq_true, Nat.not_lt, Nat.not_le, beq_iff_eq, bne_iff_ne] at c1
            refine TC.seq ?_
            have hD : gs ls mid rid [] ty src xs = (n, .empty, 0) := by
              rw [hgs2, if_neg]
              rintro ⟨h1, h2⟩
              first
              | exact absurd h2 (by omega)
              | exact absurd (h1.symm.trans g7_1) (by decide)
            refine TC.region ?_
            refine TL.val rfl rfl rfl (Y.move rfl rfl) ?_
            refine TL.val rfl rfl rfl (Y.bin rfl rfl rfl (br_geI (n := 0))) ?_
            refine TL.is false (by first | rfl | (simp only [decide_eq_true_eq, decide_eq_false_iff_not, Bool.not_eq_true', Bool.not_eq_false', Bool.not_eq_eq_eq_not, Bool.not_true, Bool.not_false, Nat.not_lt, Nat.not_le]; omega) | (simp [*]; done) | (simp; omega)) ?_
            refine TL.val rfl rfl rfl (Y.move rfl rfl) ?_
            refine TL.not rfl rfl rfl ?_
            refine TL.not rfl rfl rfl ?_
            refine TL.not rfl rfl rfl ?_
            refine TL.not rfl rfl rfl ?_
            refine TL.not rfl rfl rfl ?_
            refine TL.not rfl rfl rfl ?_
            refine TL.not rfl rfl rfl ?_
            refine TL.not rfl rfl rfl ?_
            refine TL.not rfl rfl rfl ?_
            refine TL.not rfl rfl rfl ?_
            refine TL.val rfl rfl rfl (Y.pick_f rfl rfl rfl) ?_
            refine TL.nil ?_
            refine TQ.next ?_
            refine TC.cond_f rfl ?_
            refine TC.skip ?_
            refine TQ.meetF ((by first | (have := hA; exact bstr (fv xs rid)) | exact .empty)) ((by first | exact hA | exact hD)) ⟨rfl, trivial⟩ (by (repeat first | apply Grow.refl | apply Grow.step | apply Grow.app)) ?_ ?_
            · kernel_rfl
            · simp only [List.cons_append, List.nil_append]
              exact ett
        · try simp only [decide_eq_true_eq, decide_eq_false_iff_not, Bool.not_eq_true', Bool.not_eq_false', Nat.not_lt, Nat.not_le, beq_iff_eq, bne_iff_ne] at g7_1
          refine TL.not rfl rfl rfl ?_
          refine TL.not rfl rfl rfl ?_
          refine TL.not rfl rfl rfl ?_
          refine TL.not rfl rfl rfl ?_
          refine TL.not rfl rfl rfl ?_
          refine TL.val rfl rfl rfl (Y.pick_f rfl rfl rfl) ?_
          refine TL.nil ?_
          refine TQ.next ?_
          refine TC.cond_f rfl ?_
          refine TC.seq ?_
          have hD : gs ls mid rid [] ty src xs = (n, .empty, 0) := by
            rw [hgs2, if_neg]
            rintro ⟨h1, h2⟩
            first
            | exact absurd h2 (by omega)
            | exact absurd (h1.symm.trans g7_1) (by decide)
          refine TC.region ?_
          refine TL.val rfl rfl rfl (Y.move rfl rfl) ?_
          refine TL.val rfl rfl rfl (Y.bin rfl rfl rfl (br_geI (n := 0))) ?_
          refine TL.is false (by first | rfl | (simp only [decide_eq_true_eq, decide_eq_false_iff_not, Bool.not_eq_true', Bool.not_eq_false', Bool.not_eq_eq_eq_not, Bool.not_true, Bool.not_false, Nat.not_lt, Nat.not_le]; omega) | (simp [*]; done) | (simp; omega)) ?_
          refine TL.val rfl rfl rfl (Y.move rfl rfl) ?_
          refine TL.not rfl rfl rfl ?_
          refine TL.not rfl rfl rfl ?_
          refine TL.not rfl rfl rfl ?_
          refine TL.not rfl rfl rfl ?_
          refine TL.not rfl rfl rfl ?_
          refine TL.not rfl rfl rfl ?_
          refine TL.not rfl rfl rfl ?_
          refine TL.not rfl rfl rfl ?_
          refine TL.not rfl rfl rfl ?_
          refine TL.not rfl rfl rfl ?_
          refine TL.val rfl rfl rfl (Y.pick_f rfl rfl rfl) ?_
          refine TL.nil ?_
          refine TQ.next ?_
          refine TC.cond_f rfl ?_
          refine TC.skip ?_
          refine TQ.meetF ((by first | (have := hA; exact bstr (fv xs rid)) | exact .empty)) ((by first | exact hA | exact hD)) ⟨rfl, trivial⟩ (by (repeat first | apply Grow.refl | apply Grow.step | apply Grow.app)) ?_ ?_
          · kernel_rfl
          · simp only [List.cons_append, List.nil_append]
            exact ett
      · rintro r hs F' L' rfl hL'
        simp only [List.cons_append, List.nil_append] at hL'
        subst hL'
        refine TC.seq ?_
        refine TC.seq ?_
        refine TC.region ?_
        refine TL.val rfl rfl rfl (Y.move rfl rfl) ?_
        refine TL.val rfl rfl rfl (Y.bin rfl rfl rfl (br_ltI (n := 0))) ?_
        refine TL.is true (by first | rfl | (simp only [decide_eq_true_eq, decide_eq_false_iff_not, Bool.not_eq_true', Bool.not_eq_false', Bool.not_eq_eq_eq_not, Bool.not_true, Bool.not_false, Nat.not_lt, Nat.not_le]; omega) | (simp [*]; done) | (simp; omega)) ?_
        refine TL.val rfl rfl rfl (Y.move rfl rfl) ?_
        refine TL.valG rfl rfl rfl (Y.move rfl rfl) ?_
        refine TL.valG rfl rfl rfl (Y.nilCheck rfl rfl) ?_
        refine TL.valG rfl rfl rfl (by first | exact Y.fieldAddrJ rfl fo79_3 rfl nqq | exact Y.fieldAddr rfl fo79_3 rfl nqq) ?_
        refine TL.valG rfl rfl rfl (Y.load rfl sc77 rfl celD) ?_
        refine TL.as (.slice none 0 0) (by rfl) ?_
        refine TL.valG rfl rfl rfl (Y.len rfl Try.underlying77 rfl) ?_
        refine TL.valG rfl rfl rfl (Y.bin rfl rfl rfl (br_geN (n := 32))) ?_
        refine TL.is false (by first | rfl | (simp only [decide_eq_true_eq, decide_eq_false_iff_not, Bool.not_eq_true', Bool.not_eq_false', Bool.not_eq_eq_eq_not, Bool.not_true, Bool.not_false, Nat.not_lt, Nat.not_le]; omega) | (simp [*]; done) | (simp; omega)) ?_
        refine TL.val rfl rfl rfl (Y.pick_t rfl rfl rfl) ?_
        refine TL.nil ?_
        refine TQ.next ?_
        refine TC.cond_f rfl ?_
        refine TC.skip ?_
        refine TQ.next ?_
        refine TC.seq ?_
        refine TC.region ?_
        refine TL.val rfl rfl rfl (Y.move rfl rfl) ?_
        refine TL.val rfl rfl rfl (Y.move rfl rfl) ?_
        refine TL.val rfl rfl rfl (Y.assign rfl rfl) ?_
        refine TL.val rfl rfl rfl (Y.assign rfl rfl) ?_
        refine TL.val rfl rfl rfl (Y.assign rfl rfl) ?_
        refine TL.nil ?_
        refine TQ.next ?_
        refine TC.ret ?_
        refine TQ.retE (resL rfl (Res.tmp rfl (Res.tmp rfl (Res.tmp rfl Res.nil)))) (⟨by (rw [hs]) <;> rfl, rfl⟩) ?_
        exact ett
end dm
end Go.Proofs.Ytmdahgmlccmdoaa
