/- assoc: receive, walked. -/
import Derived.Test.YtomplpdeeomehaaAsF
import Derived.Test.YtomplpdeeomehaaHAuto
namespace Go.Proofs.Ytomplpdeeomehaa
set_option linter.unusedVariables false
set_option linter.unusedSimpArgs false
open Go.RowKit
namespace ac
open wr (be16 be32)
namespace FxAsR
set_option maxRecDepth 100000
theorem ag51 : Program.aggN Try.prog 51 = some 3 := by kernel_rfl
theorem el28 : Elt Try.prog 28 51 3 32 (.agg #[.int .u16 0, .int .u32 0, .slice none 0 0]) := ⟨Try.underlying28, by kernel_rfl, rfl, by decide, by simp [Value.cells, Value.oneCell']⟩
theorem fo68_6 : Program.fieldOff Try.prog 68 6 = some 6 := by kernel_rfl
theorem fo68_7 : Program.fieldOff Try.prog 68 7 = some 7 := by kernel_rfl
theorem sc22 : Program.isSc Try.prog 22 = true := by kernel_rfl
theorem sc63 : Program.isSc Try.prog 63 = true := by kernel_rfl
theorem zc51 : Program.zeroC Try.prog 51 = some #[.int .u16 0, .int .u32 0, .slice none 0 0] := by kernel_rfl
end FxAsR
open FxAsR
theorem mapT : Program.underlying Try.prog 63 = some (.map 22 51) := Try.underlying63
theorem zMsg : ((Try.prog.info? 51).bind (·.zero)) = some (.agg #[v16 0, v32 0, .slice none 0 0]) := by kernel_rfl
def lkC : Option Msg → Array Value
  | some v => (Dat.c v).toArray
  | none => #[v16 0, v32 0, .slice none 0 0]
theorem lkC_size (o : Option Msg) : (lkC o).size = 3 := by cases o <;> rfl
theorem lkC_one (o : Option Msg) : ∀ v ∈ (lkC o).toList, v.oneCell' = true := by
  cases o with
  | none => exact allOne (by rfl)
  | some m => exact allOne (by rfl)
theorem lk_val (o : Option Msg) : Value.tuple #[(match o with | some v => Value.agg (Dat.c v).toArray | none => Value.agg #[v16 0, v32 0, .slice none 0 0]), .bool o.isSome] = .tuple #[.agg (lkC o), .bool o.isSome] := by cases o <;> rfl
theorem Win_next {S : AS Msg} {w : Nat} (h : S.Win (w + 1)) : S.step1.Win w := fun k hk => by
  have hk2 : ¬ k = S.top + 1 ∧ (S.kept k).isSome = true := by
    simp only [AS.step1, mdel] at hk
    split at hk
    · cases hk
    · rename_i hne; exact ⟨hne, hk⟩
  have h1 := h k hk2.2
  have hne : k - S.top - 1 ≠ 0 := fun e => hk2.1 (by
    have : k = (k - S.top - 1) + (S.top + 1) := by grind
    rw [e, UInt32.zero_add] at this; exact this)
  show (k - (S.top + 1) - 1).toNat < w
  have e : k - (S.top + 1) - 1 = (k - S.top - 1) - 1 := by grind
  rw [e]
  generalize k - S.top - 1 = x at h1 hne ⊢
  have hx : x.toNat ≠ 0 := fun e => hne (UInt32.toNat_inj.1 (by simpa using e))
  have : (x - 1).toNat = x.toNat - 1 := by rw [UInt32.toNat_sub_of_le x 1 (by rw [UInt32.le_iff_toNat_le]; show 1 ≤ _; omega)]; rfl
  omega
theorem Win_zero {S : AS Msg} (h : S.Win 0) (k : UInt32) : S.kept k = none := by
  cases hk : S.kept k with
  | none => rfl
  | some m => exact absurd (h k (by rw [hk]; rfl)) (by omega)
theorem Win_pos {S : AS Msg} {w : Nat} (h : S.Win w) {m : Msg} (hm : S.kept (S.top + 1) = some m) : ∃ w', w = w' + 1 := by
  cases w with
  | zero => rw [Win_zero h] at hm; cases hm
  | succ w => exact ⟨w, rfl⟩
theorem deliver_none {S : AS Msg} (f : Nat) (h : S.kept (S.top + 1) = none) : AS.deliver f S = ([], S) := by
  cases f with
  | zero => rfl
  | succ f => rw [AS.deliver, h]
theorem deliver_some {S : AS Msg} (f : Nat) {m : Msg} (h : S.kept (S.top + 1) = some m) : AS.deliver (f + 1) S = (m :: (AS.deliver f S.step1).1, (AS.deliver f S.step1).2) := by rw [AS.deliver, h]
theorem keep_win {S : AS Msg} {t : UInt32} {m : Msg} (h : S.Win 32) : (S.keep t m).Win 32 := by
  unfold AS.keep
  split
  · rename_i hc
    intro k hk
    simp only [mput] at hk
    by_cases e : k = t
    · subst e; exact UInt32.lt_iff_toNat_lt.1 hc.2
    · rw [if_neg e] at hk; exact h k hk
  · exact h
theorem keep_top (S : AS Msg) (t : UInt32) (m : Msg) : (S.keep t m).top = S.top := by unfold AS.keep; split <;> rfl
theorem keep_asC (p : AP) (S : AS Msg) (t : UInt32) (m : Msg) : asC p (S.keep t m) = asC p S := by unfold AS.keep; split <;> rfl
theorem keep_have {S : AS Msg} {t : UInt32} {m : Msg} (h : (S.kept t).isSome = true) : S.keep t m = S := by
  unfold AS.keep; rw [if_neg]
  rintro ⟨h1, -⟩
  cases hk : S.kept t <;> simp_all
set_option maxHeartbeats 4000000 in
theorem receive_fn (b : Nat) (p : AP) (S : AS Msg) (t : UInt32) (st : UInt16) (kd : UInt32) (bs : Bs) (hw : S.Win 32) (L : List SA) :
    Fn Try.prog 36 [pt b 0, v32 t, .agg (msC st kd (.slice bs.a bs.l.length bs.cap))] (aB b p S :: aM p S :: SA.dat ((st, kd, bs) : Msg) :: L)
      (fun v L' => ∃ o : Sl Msg, v = o.v ∧ o.l = (S.recv t (st, kd, bs)).1 ∧ L' = SA.dat o :: aB b p (S.recv t (st, kd, bs)).2 :: aM p (S.recv t (st, kd, bs)).2 :: L) := by
  refine Fn.of (N := 74) Try.func36 rfl rfl ?_
  intro Xh
  refine TC.seq ?_
  refine TC.region ?_
  refine TL.eff rfl rfl rfl (X.boxA rfl rfl) ?_
  rintro _ _ ⟨b5, rfl, rfl⟩
  refine TL.val rfl rfl rfl (Y.assign rfl rfl) ?_
  refine TL.nil ?_
  refine TQ.next ?_
  refine TC.cutF (ι := Unit) [] (fun _ => True) (fun _ => []) (fun _ => [SA.mapD p.mb (S.keep t (st, kd, bs)).kept]) (Ao := [SA.mapD p.mb S.kept, SA.dat ((st, kd, bs) : Msg)]) (Pulls.cons pul (Pulls.cons pul Pulls.nil)) ?_ ?_
  · rintro L' hL'
    simp only [List.cons_append, List.nil_append] at hL'
    subst hL'
    refine TC.seq ?_
    refine TC.region ?_
    refine TL.val rfl rfl rfl (Y.move rfl rfl) ?_
    refine TL.val rfl rfl rfl (Y.nilCheck rfl rfl) ?_
    refine TL.val rfl rfl rfl (by first | exact Y.fieldAddrJ rfl fo68_7 rfl nqq | exact Y.fieldAddr rfl fo68_7 rfl nqq) ?_
    refine TL.val rfl rfl rfl (Y.load rfl sc63 rfl celD) ?_
    refine TL.as (.map (some p.mb)) (by rfl) ?_
    refine TL.val rfl rfl rfl (Y.move rfl rfl) ?_
    refine TL.val rfl rfl rfl (Y.lookup rfl mapT Try.underlying22 zMsg rfl rfl (by exact inn)) ?_
    refine TL.as (.tuple #[.agg (lkC (S.kept t)), .bool (S.kept t).isSome]) (by (rcases S.kept t with _ | m <;> rfl)) ?_
    refine TL.val rfl rfl rfl (Y.move rfl rfl) ?_
    refine TL.val rfl rfl rfl (Y.extract rfl rfl rfl) ?_
    refine TL.val rfl rfl rfl (Y.extract rfl rfl rfl) ?_
    refine TL.eff rfl rfl rfl (X.alloc rfl zc51) ?_
    rintro _ _ ⟨b7, rfl, rfl⟩
    refine TL.eff0 rfl rfl (X.storeAll rfl (by kernel_rfl) (lkC_size _) rfl rfl (lkC_one _) pul (by rfl)) ?_
    rintro _ _ rfl
    refine TL.val rfl rfl rfl (Y.assign rfl rfl) ?_
    refine TL.nil ?_
    refine TQ.next ?_
    refine TC.seq ?_
    refine TC.region ?_
    refine TL.val rfl rfl rfl (Y.move rfl rfl) ?_
    refine TL.val rfl rfl rfl (Y.not rfl rfl) ?_
    refine TL.val rfl rfl rfl (Y.move rfl rfl) ?_
    refine TL.case (fun g2_2 => ?_) (fun g2_2 => ?_)
    · try simp only [decide_eq_true_eq, decide_eq_false_iff_not, Bool.not_eq_true', Bool.not_eq_false', Nat.not_lt, Nat.not_le, beq_iff_eq, bne_iff_ne] at g2_2
      refine TL.valG rfl rfl rfl (Y.move rfl rfl) ?_
      refine TL.valG rfl rfl rfl (Y.move rfl rfl) ?_
      refine TL.valG rfl rfl rfl (Y.nilCheck rfl rfl) ?_
      refine TL.valG rfl rfl rfl (by first | exact Y.fieldAddrJ rfl fo68_6 rfl nqq | exact Y.fieldAddr rfl fo68_6 rfl nqq) ?_
      refine TL.valG rfl rfl rfl (Y.load rfl sc22 rfl cel32) ?_
      refine TL.as (v32 S.top) (by rfl) ?_
      refine TL.valG rfl rfl rfl (Y.bin rfl rfl rfl (br_sub32)) ?_
      refine TL.valG rfl rfl rfl (Y.bin rfl rfl rfl (br_sub32 (y := 1))) ?_
      refine TL.valG rfl rfl rfl (Y.bin rfl rfl rfl (br_ltN (n := 32))) ?_
      refine TL.val rfl rfl rfl (Y.pick_t rfl rfl rfl) ?_
      refine TL.nil ?_
      refine TQ.next ?_
      refine TC.cond rfl (fun c0 => ?_) (fun c0 => ?_)
      · try simp only [decide_eq_true_eq, decide_eq_false_iff_not, Bool.not_eq_true', Bool.not_eq_false', Bool.and_eq_true, Bool.or_eq_true, Nat.not_lt, Nat.not_le, beq_iff_eq, bne_iff_ne] at c0
        have hk : S.keep t (st, kd, bs) = { S with kept := mput S.kept t (st, kd, bs) } := by
          unfold AS.keep; rw [if_pos]
          first
          | exact ⟨by simpa using g2_2, UInt32.lt_iff_toNat_lt.2 (by simpa using c0)⟩
        rw [hk]
        refine TC.draws 6 _ (by kernel_rfl) (by kernel_rfl) (fun _ h => h) ?_
        refine TA.take 0 rfl rfl rfl rfl (by kernel_rfl) (by kernel_rfl) (by kernel_rfl) rfl (by kernel_rfl) (by kernel_rfl) (fun _ _ _ h => h) (Y.move rfl rfl) ?_
        refine TA.take 1 rfl rfl rfl rfl (by kernel_rfl) (by kernel_rfl) (by kernel_rfl) rfl (by kernel_rfl) (by kernel_rfl) (fun _ _ _ h => h) (Y.nilCheck rfl rfl) ?_
        refine TA.take 2 rfl rfl rfl rfl (by kernel_rfl) (by kernel_rfl) (by kernel_rfl) rfl (by kernel_rfl) (by kernel_rfl) (fun _ _ _ h => h) (by first | exact Y.fieldAddrJ rfl fo68_7 rfl nqq | exact Y.fieldAddr rfl fo68_7 rfl nqq) ?_
        refine TA.take 3 rfl rfl rfl rfl (by kernel_rfl) (by kernel_rfl) (by kernel_rfl) rfl (by kernel_rfl) (by kernel_rfl) (fun _ _ _ h => h) (Y.load rfl sc63 rfl celD) ?_
        refine TA.as (.map (some p.mb)) (by rfl) ?_
        refine TA.take 4 rfl rfl rfl rfl (by kernel_rfl) (by kernel_rfl) (by kernel_rfl) rfl (by kernel_rfl) (by kernel_rfl) (fun _ _ _ h => h) (Y.move rfl rfl) ?_
        refine TA.take 5 rfl rfl rfl rfl (by kernel_rfl) (by kernel_rfl) (by kernel_rfl) rfl (by kernel_rfl) (by kernel_rfl) (fun _ _ _ h => h) (Y.loadAgg rfl ag51 rfl (Cels.all (cs := msC st kd (.slice bs.a bs.l.length bs.cap)) inn) (by first | rfl | ((try simp only [List.length_map, List.length_set, List.length_replicate]); omega))) ?_
        refine TA.as (.agg (msC st kd (.slice bs.a bs.l.length bs.cap))) (by rfl) ?_
        refine TA.one0 6 (by kernel_rfl) rfl rfl rfl (X.mapPut (v := ((st, kd, bs) : Msg)) rfl mapT Try.underlying22 rfl rfl rfl rfl pul pul) ?_
        rintro _ _ rfl
        refine ⟨(Or.inl (by kernel_rfl)), ?_⟩
        refine TA.done (by kernel_rfl) ?_
        try rw [keep_have (by assumption : (S.kept t).isSome = true)]
        refine TQ.meetF (ι := Unit) (I := fun _ => True) (C := fun (_ : Unit) => []) (U := []) (()) (trivial) trivial (by (repeat first | apply Grow.refl | apply Grow.step | apply Grow.app)) ?_ ?_
        · kernel_rfl
        · simp only [List.cons_append, List.nil_append]
          exact ett
      · try simp only [decide_eq_true_eq, decide_eq_false_iff_not, Bool.not_eq_true', Bool.not_eq_false', Bool.and_eq_true, Bool.or_eq_true, Nat.not_lt, Nat.not_le, beq_iff_eq, bne_iff_ne] at c0
        have hk : S.keep t (st, kd, bs) = S := by
          unfold AS.keep; rw [if_neg]
          rintro ⟨h1, h2⟩
          have h3 := UInt32.lt_iff_toNat_lt.1 h2
          simp_all <;> omega
        rw [hk]
        refine TC.skip ?_
        try rw [keep_have (by assumption : (S.kept t).isSome = true)]
        refine TQ.meetF (ι := Unit) (I := fun _ => True) (C := fun (_ : Unit) => []) (U := []) (()) (trivial) trivial (by (repeat first | apply Grow.refl | apply Grow.step | apply Grow.app)) ?_ ?_
        · kernel_rfl
        · simp only [List.cons_append, List.nil_append]
          exact ett
    · try simp only [decide_eq_true_eq, decide_eq_false_iff_not, Bool.not_eq_true', Bool.not_eq_false', Nat.not_lt, Nat.not_le, beq_iff_eq, bne_iff_ne] at g2_2
      refine TL.not rfl rfl rfl ?_
      refine TL.not rfl rfl rfl ?_
      refine TL.not rfl rfl rfl ?_
      refine TL.not rfl rfl rfl ?_
      refine TL.not rfl rfl rfl ?_
      refine TL.not rfl rfl rfl ?_
      refine TL.not rfl rfl rfl ?_
      refine TL.not rfl rfl rfl ?_
      refine TL.val rfl rfl rfl (Y.pick_f rfl rfl rfl) ?_
      refine TL.nil ?_
      refine TQ.next ?_
      refine TC.cond_f rfl ?_
      refine TC.skip ?_
      try rw [keep_have (by assumption : (S.kept t).isSome = true)]
      refine TQ.meetF (ι := Unit) (I := fun _ => True) (C := fun (_ : Unit) => []) (U := []) (()) (trivial) trivial (by (repeat first | apply Grow.refl | apply Grow.step | apply Grow.app)) ?_ ?_
      · kernel_rfl
      · simp only [List.cons_append, List.nil_append]
        exact ett
  · rintro ⟨⟩ - F' L' rfl hL'
    simp only [List.cons_append, List.nil_append] at hL'
    subst hL'
    obtain ⟨S1, hS1⟩ : ∃ S1, S1 = S.keep t (st, kd, bs) := ⟨_, rfl⟩
    have hw1 : S1.Win 32 := by rw [hS1]; exact keep_win hw
    rw [show S.recv t (st, kd, bs) = AS.deliver 33 S1 by rw [hS1]; rfl, show aB b p S = aB b p (S.keep t (st, kd, bs)) by simp only [aB, keep_asC], ← hS1]
    refine TC.seq ?_
    refine TC.region ?_
    refine TL.val rfl rfl rfl (Y.assign rfl rfl) ?_
    refine TL.nil ?_
    refine TQ.next ?_
    refine TC.block ?_
    refine TC.to (Ent.trans (Ent.nilOwn 51 3) Ent.rdss0) ?_
    refine TC.loopF (ι := Nat × AS Msg × Option Addr × Nat × List Msg) [6] (fun i => i.2.1.Win i.1 ∧ i.1 + i.2.2.2.2.length = 32 ∧ AS.deliver 33 S1 = (i.2.2.2.2 ++ (AS.deliver (i.1 + 1) i.2.1).1, (AS.deliver (i.1 + 1) i.2.1).2)) (fun i => [(9, some (.slice i.2.2.1 i.2.2.2.2.length i.2.2.2.1))]) (fun i => [aB b p i.2.1, aM p i.2.1, SA.owns 51 3 (.slice i.2.2.1 i.2.2.2.2.length i.2.2.2.1) i.2.2.2.2.length (Dat.cs i.2.2.2.2), SA.rdss (i.2.2.2.2.flatMap Dat.g)]) (fun i => i.1) ((32, S1, none, 0, [])) (⟨hw1, rfl, rfl⟩) ⟨rfl, trivial⟩ (Pulls.cons pul (Pulls.cons pul (Pulls.cons pul (Pulls.cons pul Pulls.nil)))) ?_
    rintro ⟨w, S2, ga, gc, got⟩ ⟨hw2, hn2, hd2⟩ F' L' rfl hL'
    simp only [List.cons_append, List.nil_append] at hL'
    subst hL'
    simp only at hw2 hn2 hd2 ⊢
    refine TC.block ?_
    refine TC.seq ?_
    refine TC.draws 14 [aB b p S2, aM p S2] (by kernel_rfl) (by kernel_rfl) (by repeat first | exact holds_nil | refine holds_cons inn ?_) ?_
    refine TA.take 0 rfl rfl rfl rfl (by kernel_rfl) (by kernel_rfl) (by kernel_rfl) rfl (by kernel_rfl) (by kernel_rfl) (fun _ _ _ h => h) (Y.move rfl rfl) ?_
    refine TA.take 1 rfl rfl rfl rfl (by kernel_rfl) (by kernel_rfl) (by kernel_rfl) rfl (by kernel_rfl) (by kernel_rfl) (fun _ _ _ h => h) (Y.nilCheck rfl rfl) ?_
    refine TA.take 2 rfl rfl rfl rfl (by kernel_rfl) (by kernel_rfl) (by kernel_rfl) rfl (by kernel_rfl) (by kernel_rfl) (fun _ _ _ h => h) (by first | exact Y.fieldAddrJ rfl fo68_7 rfl nqq | exact Y.fieldAddr rfl fo68_7 rfl nqq) ?_
    refine TA.take 3 rfl rfl rfl rfl (by kernel_rfl) (by kernel_rfl) (by kernel_rfl) rfl (by kernel_rfl) (by kernel_rfl) (fun _ _ _ h => h) (Y.load rfl sc63 rfl celD) ?_
    refine TA.as (.map (some p.mb)) (by rfl) ?_
    refine TA.take 4 rfl rfl rfl rfl (by kernel_rfl) (by kernel_rfl) (by kernel_rfl) rfl (by kernel_rfl) (by kernel_rfl) (fun _ _ _ h => h) (Y.move rfl rfl) ?_
    refine TA.take 5 rfl rfl rfl rfl (by kernel_rfl) (by kernel_rfl) (by kernel_rfl) rfl (by kernel_rfl) (by kernel_rfl) (fun _ _ _ h => h) (Y.nilCheck rfl rfl) ?_
    refine TA.take 6 rfl rfl rfl rfl (by kernel_rfl) (by kernel_rfl) (by kernel_rfl) rfl (by kernel_rfl) (by kernel_rfl) (fun _ _ _ h => h) (by first | exact Y.fieldAddrJ rfl fo68_6 rfl nqq | exact Y.fieldAddr rfl fo68_6 rfl nqq) ?_
    refine TA.take 7 rfl rfl rfl rfl (by kernel_rfl) (by kernel_rfl) (by kernel_rfl) rfl (by kernel_rfl) (by kernel_rfl) (fun _ _ _ h => h) (Y.load rfl sc22 rfl cel32) ?_
    refine TA.as (v32 S2.top) (by rfl) ?_
    refine TA.take 8 rfl rfl rfl rfl (by kernel_rfl) (by kernel_rfl) (by kernel_rfl) rfl (by kernel_rfl) (by kernel_rfl) (fun _ _ _ h => h) (Y.bin rfl rfl rfl (br_add32 (y := 1))) ?_
    refine TA.take 9 rfl rfl rfl rfl (by kernel_rfl) (by kernel_rfl) (by kernel_rfl) rfl (by kernel_rfl) (by kernel_rfl) (fun _ _ _ h => h) (Y.lookup rfl mapT Try.underlying22 zMsg rfl rfl (by exact inn)) ?_
    refine TA.as (.tuple #[.agg (lkC (S2.kept (S2.top + 1))), .bool (S2.kept (S2.top + 1)).isSome]) (by (rcases S2.kept (S2.top + 1) with _ | m <;> rfl)) ?_
    refine TA.take 10 rfl rfl rfl rfl (by kernel_rfl) (by kernel_rfl) (by kernel_rfl) rfl (by kernel_rfl) (by kernel_rfl) (fun _ _ _ h => h) (Y.move rfl rfl) ?_
    refine TA.take 11 rfl rfl rfl rfl (by kernel_rfl) (by kernel_rfl) (by kernel_rfl) rfl (by kernel_rfl) (by kernel_rfl) (fun _ _ _ h => h) (Y.extract rfl rfl rfl) ?_
    refine TA.takeP 12 rfl rfl rfl rfl (by kernel_rfl) (by kernel_rfl) (by kernel_rfl) rfl (fun _ _ _ h => h) (Y.extract rfl rfl rfl) ?_
    refine TA.one 13 (by kernel_rfl) rfl rfl rfl rfl (X.alloc rfl zc51) ?_
    rintro _ _ ⟨b10, rfl, rfl⟩
    refine ⟨(Or.inr (by repeat first | exact holds_nil | refine holds_cons inn ?_)), ?_⟩
    refine TA.one0 14 (by kernel_rfl) rfl rfl rfl (X.storeAll rfl (by kernel_rfl) (lkC_size _) rfl rfl (lkC_one _) pul (by rfl)) ?_
    rintro _ _ rfl
    refine ⟨(Or.inl (by kernel_rfl)), ?_⟩
    refine TA.takeP 15 rfl rfl rfl rfl (by kernel_rfl) (by kernel_rfl) (by kernel_rfl) rfl (fun _ _ _ h => h) (Y.assign rfl rfl) ?_
    refine TA.done (by kernel_rfl) ?_
    refine TQ.next ?_
    refine TC.seq ?_
    refine TC.seq ?_
    refine TC.region ?_
    refine TL.val rfl rfl rfl (Y.move rfl rfl) ?_
    refine TL.val rfl rfl rfl (Y.not rfl rfl) ?_
    refine TL.nil ?_
    refine TQ.next ?_
    refine TC.cond rfl (fun c1 => ?_) (fun c1 => ?_)
    · try simp only [decide_eq_true_eq, decide_eq_false_iff_not, Bool.not_eq_true', Bool.not_eq_false', Bool.and_eq_true, Bool.or_eq_true, Nat.not_lt, Nat.not_le, beq_iff_eq, bne_iff_ne] at c1
      have hnone : S2.kept (S2.top + 1) = none := by simpa using c1
      rw [deliver_none _ hnone] at hd2
      rw [hd2]
      refine TC.to (Ent.mkOwn (a := ga) (l := got) pul pul rfl rfl rfl) ?_
      refine TC.seq ?_
      refine TC.region ?_
      refine TL.val rfl rfl rfl (Y.move rfl rfl) ?_
      refine TL.val rfl rfl rfl (Y.assign rfl rfl) ?_
      refine TL.nil ?_
      refine TQ.next ?_
      refine TC.ret ?_
      refine TQ.then_ret ?_
      refine TQ.block_ret ?_
      refine TQ.then_ret ?_
      refine TQ.block_ret ?_
      refine TQ.retE (res1 rfl rfl) (⟨⟨ga, gc, got⟩, rfl, by simp, rfl⟩) ?_
      exact ett
    · try simp only [decide_eq_true_eq, decide_eq_false_iff_not, Bool.not_eq_true', Bool.not_eq_false', Bool.and_eq_true, Bool.or_eq_true, Nat.not_lt, Nat.not_le, beq_iff_eq, bne_iff_ne] at c1
      obtain ⟨m, hm⟩ : ∃ m, S2.kept (S2.top + 1) = some m := Option.isSome_iff_exists.1 (by simpa using c1)
      obtain ⟨w', rfl⟩ := Win_pos hw2 hm
      rw [deliver_some _ hm] at hd2
      rw [hm]
      refine TC.to ((Pull.ent (A := aM p S2) pul).trans (Ent.mapGet hm)) ?_
      refine TC.skip ?_
      refine TQ.next ?_
      refine TC.seq ?_
      refine TC.region ?_
      refine TL.val rfl rfl rfl (Y.move rfl rfl) ?_
      refine TL.val rfl rfl rfl (Y.nilCheck rfl rfl) ?_
      refine TL.val rfl rfl rfl (by first | exact Y.fieldAddrJ rfl fo68_6 rfl nqq | exact Y.fieldAddr rfl fo68_6 rfl nqq) ?_
      refine TL.val rfl rfl rfl (Y.load rfl sc22 rfl cel32) ?_
      refine TL.as (v32 S2.top) (by rfl) ?_
      refine TL.val rfl rfl rfl (Y.bin rfl rfl rfl (br_add32 (y := 1))) ?_
      refine TL.val rfl rfl rfl (Y.nilCheck rfl rfl) ?_
      refine TL.val rfl rfl rfl (by first | exact Y.fieldAddrJ rfl fo68_6 rfl nqq | exact Y.fieldAddr rfl fo68_6 rfl nqq) ?_
      refine TL.eff0 rfl rfl (X.store (cs' := asC p { S2 with top := S2.top + 1 }) rfl (by kernel_rfl) rfl rfl rfl pul (by show 6 < 17; decide) rfl) ?_
      rintro _ _ rfl
      refine TL.nil ?_
      refine TQ.next ?_
      refine TC.seq ?_
      refine TC.draws 8 _ (by kernel_rfl) (by kernel_rfl) (fun _ h => h) ?_
      refine TA.takeP 0 rfl rfl rfl rfl (by kernel_rfl) (by kernel_rfl) (by kernel_rfl) rfl (fun _ _ _ h => h) (Y.move rfl rfl) ?_
      refine TA.takeP 1 rfl rfl rfl rfl (by kernel_rfl) (by kernel_rfl) (by kernel_rfl) rfl (fun _ _ _ h => h) (Y.nilCheck rfl rfl) ?_
      refine TA.takeP 2 rfl rfl rfl rfl (by kernel_rfl) (by kernel_rfl) (by kernel_rfl) rfl (fun _ _ _ h => h) (by first | exact Y.fieldAddrJ rfl fo68_7 rfl nqq | exact Y.fieldAddr rfl fo68_7 rfl nqq) ?_
      refine TA.take 3 rfl rfl rfl rfl (by kernel_rfl) (by kernel_rfl) (by kernel_rfl) rfl (by kernel_rfl) (by kernel_rfl) (fun _ _ _ h => h) (Y.load rfl sc63 rfl celD) ?_
      refine TA.as (.map (some p.mb)) (by rfl) ?_
      refine TA.takeP 4 rfl rfl rfl rfl (by kernel_rfl) (by kernel_rfl) (by kernel_rfl) rfl (fun _ _ _ h => h) (Y.move rfl rfl) ?_
      refine TA.takeP 5 rfl rfl rfl rfl (by kernel_rfl) (by kernel_rfl) (by kernel_rfl) rfl (fun _ _ _ h => h) (Y.nilCheck rfl rfl) ?_
      refine TA.takeP 6 rfl rfl rfl rfl (by kernel_rfl) (by kernel_rfl) (by kernel_rfl) rfl (fun _ _ _ h => h) (by first | exact Y.fieldAddrJ rfl fo68_6 rfl nqq | exact Y.fieldAddr rfl fo68_6 rfl nqq) ?_
      refine TA.take 7 rfl rfl rfl rfl (by kernel_rfl) (by kernel_rfl) (by kernel_rfl) rfl (by kernel_rfl) (by kernel_rfl) (fun _ _ _ h => h) (Y.load rfl sc22 rfl cel32) ?_
      refine TA.as (v32 (S2.top + 1)) (by rfl) ?_
      refine TA.one0 8 (by kernel_rfl) rfl rfl rfl (X.mapDel (β := Msg) (m := S2.kept) rfl mapT Try.underlying22 rfl rfl pul) ?_
      rintro _ _ rfl
      refine ⟨(Or.inl (by kernel_rfl)), ?_⟩
      refine TA.done (by kernel_rfl) ?_
      refine TQ.next ?_
      refine TC.region ?_
      refine TL.val rfl rfl rfl (Y.move rfl rfl) ?_
      refine TL.val rfl rfl rfl (Y.loadAgg rfl ag51 rfl (Cels.all (cs := lkC (some m)) inn) (by first | rfl | ((try simp only [List.length_map, List.length_set, List.length_replicate]); omega))) ?_
      refine TL.as (.agg (Dat.c m).toArray) (by rfl) ?_
      refine TL.eff rfl rfl rfl (X.litD (sz := 3) m rfl Try.underlying28 (by kernel_rfl) rfl rfl (by decide)) ?_
      rintro _ _ ⟨g72, rfl, rfl⟩
      refine TL.eff rfl rfl rfl (X.appendS rfl el28 rfl pul rfl (by first | exact Src.owns Try.underlying28 inn | exact Src.rds Try.underlying28 inn | exact Src.reads (by assumption) Try.underlying28 inn) (by simp only [maxLen]; omega) (by omega)) ?_
      rintro _ _ ⟨a73, c73, rfl, rfl⟩
      refine TL.val rfl rfl rfl (Y.assign rfl rfl) ?_
      refine TL.nil ?_
      refine TQ.to (Ent.addEl (x := m) (ys := got) pul pul) ?_
      rw [show Dat.cs got ++ Dat.c m = Dat.cs (got ++ [m]) by rw [Dat.cs_app]; simp [Dat.cs]; rfl, show got.length + 1 = (got ++ [m]).length by simp]
      refine TQ.block_normal ?_
      refine TQ.loopF ((w', S2.step1, a73, c73, got ++ [m])) (⟨Win_next hw2, by rw [List.length_append]; show w' + (got.length + 1) = 32; omega, by rw [hd2]; simp⟩) (by show w' < w' + 1; omega) ⟨rfl, trivial⟩ (by (repeat first | apply Grow.refl | apply Grow.step | apply Grow.app)) ?_ ?_ ?_
      · kernel_rfl
      · rfl
      · simp only [List.cons_append, List.nil_append]
        exact ett
end ac
end Go.Proofs.Ytomplpdeeomehaa
