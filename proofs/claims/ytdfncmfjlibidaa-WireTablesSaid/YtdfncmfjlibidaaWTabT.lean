/- wire: the walk of the statement on tables. -/
import Derived.Test.YtdfncmfjlibidaaWTab
import Derived.Test.YtdfncmfjlibidaaHAuto
namespace Go.Proofs.Ytdfncmfjlibidaa
set_option linter.unusedVariables false
set_option linter.unusedSimpArgs false
open Go.RowKit
namespace wi
namespace FxWTabT
set_option maxRecDepth 100000
theorem ag44 : Program.aggN Try.prog 44 = some 3 := by kernel_rfl
theorem el29 : Elt Try.prog 29 21 1 4 (.int .i32 0) := ⟨Try.underlying29, by kernel_rfl, rfl, by decide, by simp [Value.cells, Value.oneCell']⟩
theorem el42 : Elt Try.prog 42 9 1 16 (.string .empty) := ⟨Try.underlying42, by kernel_rfl, rfl, by decide, by simp [Value.cells, Value.oneCell']⟩
theorem fo44_0 : Program.fieldOff Try.prog 44 0 = some 0 := by kernel_rfl
theorem fo44_1 : Program.fieldOff Try.prog 44 1 = some 1 := by kernel_rfl
theorem fo44_2 : Program.fieldOff Try.prog 44 2 = some 2 := by kernel_rfl
theorem sc21 : Program.isSc Try.prog 21 = true := by kernel_rfl
theorem sc29 : Program.isSc Try.prog 29 = true := by kernel_rfl
theorem sc3 : Program.isSc Try.prog 3 = true := by kernel_rfl
theorem sc4 : Program.isSc Try.prog 4 = true := by kernel_rfl
theorem sc42 : Program.isSc Try.prog 42 = true := by kernel_rfl
theorem sc9 : Program.isSc Try.prog 9 = true := by kernel_rfl
theorem sl29 : Program.slI Try.prog 29 = some 1 := by kernel_rfl
theorem sl39 : Program.slI Try.prog 39 = some 3 := by kernel_rfl
theorem sl42 : Program.slI Try.prog 42 = some 1 := by kernel_rfl
theorem sz21 : (Try.prog.info? 21).map (·.size) = some 1 := by kernel_rfl
theorem sz29 : (Try.prog.info? 29).map (·.size) = some 1 := by kernel_rfl
theorem sz3 : (Try.prog.info? 3).map (·.size) = some 1 := by kernel_rfl
theorem sz4 : (Try.prog.info? 4).map (·.size) = some 1 := by kernel_rfl
theorem sz42 : (Try.prog.info? 42).map (·.size) = some 1 := by kernel_rfl
theorem sz44 : (Try.prog.info? 44).map (·.size) = some 3 := by kernel_rfl
theorem sz9 : (Try.prog.info? 9).map (·.size) = some 1 := by kernel_rfl
theorem zc29 : Program.zeroC Try.prog 29 = some #[.slice none 0 0] := by kernel_rfl
theorem zc3 : Program.zeroC Try.prog 3 = some #[.int .i64 0] := by kernel_rfl
theorem zc4 : Program.zeroC Try.prog 4 = some #[.bool false] := by kernel_rfl
theorem zc42 : Program.zeroC Try.prog 42 = some #[.slice none 0 0] := by kernel_rfl
theorem zc44 : Program.zeroC Try.prog 44 = some #[.int .i64 0, .string .empty, .int .i32 0] := by kernel_rfl
end FxWTabT
open FxWTabT
set_option maxHeartbeats 8000000 in
theorem tables_fn (most : Int) (hmost : inI most) (a : Option Addr) (cap : Nat) (ls : List CT) (stop : Int) (L : List SA) :
    Fn Try.prog 5 [vI most, .slice a ls.length cap, vI stop] (SA.dat (⟨a, cap, ls⟩ : Sl CT) :: L) (fun v L' => v = .bool true ∧ L' = SA.dat (⟨a, cap, ls⟩ : Sl CT) :: L) := by
  have hmost1 := hmost.1
  have hmost2 := hmost.2
  refine Fn.of (N := 196) Try.func5 rfl rfl ?_
  intro Xh
  refine TC.know (dat_cap (a := a) inn) ?_
  rintro ⟨hc1, hc2, -⟩
  refine TC.seq ?_
  refine TC.region ?_
  refine TL.eff rfl rfl rfl (X.box1 rfl rfl rfl) ?_
  rintro _ _ ⟨b5, rfl, rfl⟩
  refine TL.eff rfl rfl rfl (X.alloc rfl zc4) ?_
  rintro _ _ ⟨b6, rfl, rfl⟩
  refine TL.nil ?_
  refine TQ.next ?_
  refine TC.seq ?_
  refine TC.seq ?_
  refine TC.region ?_
  refine TL.eff rfl rfl rfl (X.call rfl Try.func8 (by kernel_rfl) rfl rfl (Fn.preE (by repeat first | (with_reducible apply Ent.refl) | (apply Ent.cons; case h => first | (with_reducible (repeat first | apply Pull.here | apply Pull.there); done) | (repeat first | apply Pull.here | apply Pull.there))) (wi.awake_fn _))) ?_
  rintro _ _ ⟨rfl, rfl⟩
  refine TL.val rfl rfl rfl (Y.not rfl rfl) ?_
  refine TL.nil ?_
  refine TQ.next ?_
  refine TC.cond_f rfl ?_
  refine TC.skip ?_
  refine TQ.next ?_
  refine TC.cutF (ι := Int) [] (fun i => i ≤ 1000) (fun i => [(0, some (vI i))]) (fun i => []) (Ao := []) Pulls.nil ?_ ?_
  · rintro L' hL'
    simp only [List.cons_append, List.nil_append] at hL'
    subst hL'
    refine TC.seq ?_
    refine TC.region ?_
    refine TL.val rfl rfl rfl (Y.move rfl rfl) ?_
    refine TL.val rfl rfl rfl (Y.bin rfl rfl rfl (br_gtI (n := 1000))) ?_
    refine TL.nil ?_
    refine TQ.next ?_
    refine TC.cond rfl (fun c1 => ?_) (fun c1 => ?_)
    · try simp only [decide_eq_true_eq, decide_eq_false_iff_not, Bool.not_eq_true', Bool.not_eq_false', Bool.and_eq_true, Bool.or_eq_true, Nat.not_lt, Nat.not_le, beq_iff_eq, bne_iff_ne] at c1
      have ht : most.tmod 1000 ≤ 1000 := by rw [Int.tmod_eq_emod_of_nonneg (by omega)]; omega
      refine TC.region ?_
      refine TL.val rfl rfl rfl (Y.move rfl rfl) ?_
      refine TL.val rfl rfl rfl (Y.bin rfl rfl rfl (br_remI (n := 1000) (by omega))) ?_
      refine TL.val rfl rfl rfl (Y.assign rfl rfl) ?_
      refine TL.nil ?_
      refine TQ.meetF ((by first | (have := ht; exact most.tmod 1000) | exact most)) ((by first | exact ht | omega)) ⟨rfl, trivial⟩ (by (repeat first | apply Grow.refl | apply Grow.step | apply Grow.app)) ?_ ?_
      · kernel_rfl
      · simp only [List.cons_append, List.nil_append]
        exact ett
    · try simp only [decide_eq_true_eq, decide_eq_false_iff_not, Bool.not_eq_true', Bool.not_eq_false', Bool.and_eq_true, Bool.or_eq_true, Nat.not_lt, Nat.not_le, beq_iff_eq, bne_iff_ne] at c1
      refine TC.skip ?_
      refine TQ.meetF ((by first | (have := ht; exact most.tmod 1000) | exact most)) ((by first | exact ht | omega)) ⟨rfl, trivial⟩ (by (repeat first | apply Grow.refl | apply Grow.step | apply Grow.app)) ?_ ?_
      · kernel_rfl
      · simp only [List.cons_append, List.nil_append]
        exact ett
  · rintro mo hmo F' L' rfl hL'
    simp only [List.cons_append, List.nil_append] at hL'
    subst hL'
    refine TC.seq ?_
    refine TC.region ?_
    refine TL.val rfl rfl rfl (Y.move rfl rfl) ?_
    refine TL.eff rfl rfl rfl (X.call rfl Try.func19 (by kernel_rfl) rfl rfl (Fn.preE (by repeat first | (with_reducible apply Ent.refl) | (apply Ent.cons; case h => first | (with_reducible (repeat first | apply Pull.here | apply Pull.there); done) | (repeat first | apply Pull.here | apply Pull.there))) (tbs.NewI_fn mo _))) ?_
    rintro _ _ ⟨tb27, rfl, rfl⟩
    refine TL.val rfl rfl rfl (Y.assign rfl rfl) ?_
    refine TL.nil ?_
    refine TQ.next ?_
    refine TC.seq ?_
    refine TC.region ?_
    refine TL.val rfl rfl rfl (Y.move rfl rfl) ?_
    refine TL.val rfl rfl rfl (Y.maxI (n := 1) rfl rfl rfl) ?_
    refine TL.as (vN (max mo 1).toNat) (by (show vI _ = vI _; congr 1; omega)) ?_
    refine TL.val rfl rfl rfl (Y.assign rfl rfl) ?_
    refine TL.nil ?_
    obtain ⟨M, hM⟩ : ∃ M, (max mo 1).toNat = M := ⟨_, rfl⟩
    rw [hM]
    have hM2 : M ≤ 1000 := by omega
    refine TQ.to (Ent.nilOwn 9 1) ?_
    refine TQ.to (Ent.nilOwn 21 1) ?_
    refine TQ.next ?_
    refine TC.seq ?_
    refine TC.region ?_
    refine TL.eff rfl rfl rfl (X.alloc rfl zc42) ?_
    rintro _ _ ⟨b8, rfl, rfl⟩
    refine TL.nil ?_
    refine TQ.next ?_
    refine TC.seq ?_
    refine TC.region ?_
    refine TL.eff rfl rfl rfl (X.alloc rfl zc29) ?_
    rintro _ _ ⟨b9, rfl, rfl⟩
    refine TL.nil ?_
    refine TQ.next ?_
    refine TC.seq ?_
    refine TC.seq ?_
    refine TC.region ?_
    refine TL.val rfl rfl rfl (Y.move rfl rfl) ?_
    refine TL.val rfl rfl rfl (Y.len rfl Try.underlying39 rfl) ?_
    refine TL.val rfl rfl rfl (Y.move rfl rfl) ?_
    refine TL.nil ?_
    refine TQ.next ?_
    refine TC.block ?_
    refine TC.loopF (ι := Nat × List ET × (Option Addr × Nat) × (Option Addr × Nat)) [] (fun i => i.1 ≤ ls.length ∧ i.2.1.length ≤ M ∧ (i.2.1.map Prod.fst).Nodup) (fun i => [(32, some (vN i.1))]) (fun i => [tbs.TB tb27 M i.2.1, SA.blk b8 #[.slice i.2.2.1.1 i.2.1.length i.2.2.1.2] 42, KO i.2.2.1.1 i.2.2.1.2 i.2.1, SA.blk b9 #[.slice i.2.2.2.1 i.2.1.length i.2.2.2.2] 29, VO i.2.2.2.1 i.2.2.2.2 i.2.1]) (fun i => ls.length - i.1) ((0, [], (none, 0), (none, 0))) (⟨Nat.zero_le _, Nat.zero_le _, List.nodup_nil⟩) ⟨rfl, trivial⟩ (Pulls.cons pul (Pulls.cons pul (Pulls.cons pul (Pulls.cons pul (Pulls.cons pul Pulls.nil))))) ?_
    rintro ⟨k, l, ⟨ka, kc⟩, ⟨va, vc⟩⟩ ⟨hk, hl, hn⟩ F' L' rfl hL'
    simp only [List.cons_append, List.nil_append] at hL'
    subst hL'
    simp only at hk hl hn ⊢
    refine TC.seq ?_
    refine TC.region ?_
    refine TL.val rfl rfl rfl (Y.bin rfl rfl rfl (br_ltN)) ?_
    refine TL.nil ?_
    refine TQ.next ?_
    refine TC.seq ?_
    refine TC.cond rfl (fun c2 => ?_) (fun c2 => ?_)
    · try simp only [decide_eq_true_eq, decide_eq_false_iff_not, Bool.not_eq_true', Bool.not_eq_false', Bool.and_eq_true, Bool.or_eq_true, Nat.not_lt, Nat.not_le, beq_iff_eq, bne_iff_ne] at c2
      refine TC.skip ?_
      refine TQ.next ?_
      refine TC.seq ?_
      refine TC.block ?_
      refine TC.seq ?_
      refine TC.region ?_
      refine TL.val rfl rfl rfl (Y.move rfl rfl) ?_
      refine TL.val rfl rfl rfl (Y.assign rfl rfl) ?_
      refine TL.nil ?_
      refine TQ.next ?_
      refine TC.seq ?_
      refine TC.know (dat_some (a := a) inn (by omega)) ?_
      rintro ⟨g, off, rfl⟩
      obtain ⟨x, hx, -⟩ := getS (l := ls) (i := k) (by omega)
      obtain ⟨kind, key, num⟩ := x
      refine TC.region ?_
      refine TL.val rfl rfl rfl (Y.move rfl rfl) ?_
      refine TL.val rfl rfl rfl (Y.move rfl rfl) ?_
      refine TL.val rfl rfl rfl (by first | exact Y.indexSlB rfl sl39 rfl rfl (by omega) nqq | exact Y.indexSl rfl sl39 rfl rfl (by omega) nqq) ?_
      refine TL.val rfl rfl rfl (Y.loadAgg rfl ag44 rfl (by first | exact Cels.datAt inn (by assumption) | exact Cels.full inn) (by first | rfl | ((try simp only [List.length_map, List.length_set, List.length_replicate]); omega))) ?_
      refine TL.as (.agg #[vI kind, vS key, .int .i32 num.n]) (by rfl) ?_
      refine TL.eff rfl rfl rfl (X.alloc rfl zc44) ?_
      rintro _ _ ⟨b11, rfl, rfl⟩
      refine TL.eff0 rfl rfl (by first | exact X.storeAll rfl sz44 (by rfl) rfl rfl (allOne (by rfl)) pul (by rfl) | exact X.storeAll rfl sz44 szz rfl rfl (by simp [Value.oneCell']) pul szz | exact X.storeAgg rfl sz44 szz rfl rfl (by simp [Value.oneCell']) pul szz (writeM (by ((try simp only [List.length_set, List.length_map, List.length_append, List.length_replicate]); omega)))) ?_
      rintro _ _ rfl
      refine TL.nil ?_
      refine TQ.next ?_
      refine TC.seq ?_
      refine TC.region ?_
      refine TL.val rfl rfl rfl (Y.assign rfl rfl) ?_
      refine TL.nil ?_
      refine TQ.next ?_
      refine TC.seq ?_
      refine TC.seq ?_
      refine TC.region ?_
      refine TL.val rfl rfl rfl (Y.load rfl sc42 rfl celD) ?_
      refine TL.val rfl rfl rfl (Y.len rfl Try.underlying42 rfl) ?_
      refine TL.val rfl rfl rfl (Y.move rfl rfl) ?_
      refine TL.nil ?_
      refine TQ.next ?_
      refine TC.block ?_
      refine TC.loopF (ι := Nat × Option Nat) [] (fun i => i.1 ≤ l.length ∧ i.2 = Fi (l.take i.1) key) (fun i => [(41, some (vN i.1)), (12, some (vI (iv i.2)))]) (fun i => []) (fun i => l.length - i.1) ((0, none)) (⟨Nat.zero_le _, rfl⟩) ⟨rfl, rfl, trivial⟩ Pulls.nil ?_
      rintro ⟨j, r⟩ ⟨hj, hr⟩ F' L' rfl hL'
      simp only [List.cons_append, List.nil_append] at hL'
      subst hL'
      simp only at hj hr ⊢
      refine TC.seq ?_
      refine TC.region ?_
      refine TL.val rfl rfl rfl (Y.bin rfl rfl rfl (br_ltN)) ?_
      refine TL.nil ?_
      refine TQ.next ?_
      refine TC.seq ?_
      refine TC.cond rfl (fun c3 => ?_) (fun c3 => ?_)
      · try simp only [decide_eq_true_eq, decide_eq_false_iff_not, Bool.not_eq_true', Bool.not_eq_false', Bool.and_eq_true, Bool.or_eq_true, Nat.not_lt, Nat.not_le, beq_iff_eq, bne_iff_ne] at c3
        refine TC.skip ?_
        refine TQ.next ?_
        refine TC.seq ?_
        refine TC.block ?_
        refine TC.seq ?_
        refine TC.region ?_
        refine TL.val rfl rfl rfl (Y.move rfl rfl) ?_
        refine TL.val rfl rfl rfl (Y.assign rfl rfl) ?_
        refine TL.nil ?_
        refine TQ.next ?_
        refine TC.seq ?_
        refine TC.know (owns_some (e := 9) (n := l.length) (a := ka) inn (by omega)) ?_
        rintro ⟨gk, offk, rfl⟩
        obtain ⟨y, hy, -⟩ := getS (l := l) (i := j) (by omega)
        have hfs := Fi_s (q := key) hy hn
        have hyk : (l.map Prod.fst)[j]? = some y.1 := by rw [List.getElem?_map, hy]; rfl
        refine TC.draws 7 _ (by kernel_rfl) (by kernel_rfl) (fun _ h => h) ?_
        refine TA.take 0 rfl rfl rfl rfl (by kernel_rfl) (by kernel_rfl) (by kernel_rfl) rfl (by kernel_rfl) (by kernel_rfl) (fun _ _ _ h => h) (Y.load rfl sc42 rfl celD) ?_
        refine TA.as (.slice (some ⟨gk, offk, none⟩) l.length kc) (by rfl) ?_
        refine TA.take 1 rfl rfl rfl rfl (by kernel_rfl) (by kernel_rfl) (by kernel_rfl) rfl (by kernel_rfl) (by kernel_rfl) (fun _ _ _ h => h) (Y.move rfl rfl) ?_
        refine TA.take 2 rfl rfl rfl rfl (by kernel_rfl) (by kernel_rfl) (by kernel_rfl) rfl (by kernel_rfl) (by kernel_rfl) (fun _ _ _ h => h) (by first | exact Y.indexSlB rfl sl42 rfl rfl (by omega) nqq | exact Y.indexSl rfl sl42 rfl rfl (by omega) nqq) ?_
        refine TA.take 3 rfl rfl rfl rfl (by kernel_rfl) (by kernel_rfl) (by kernel_rfl) rfl (by kernel_rfl) (by kernel_rfl) (fun _ _ _ h => h) (Y.load rfl sc9 rfl (Cel.atS (l := l.map Prod.fst) Reads.owns inn hyk rfl)) ?_
        refine TA.as (vS y.1) (by rfl) ?_
        refine TA.take 4 rfl rfl rfl rfl (by kernel_rfl) (by kernel_rfl) (by kernel_rfl) rfl (by kernel_rfl) (by kernel_rfl) (fun _ _ _ h => h) (by first | exact Y.fieldAddrJ rfl fo44_1 rfl nqq | exact Y.fieldAddr rfl fo44_1 rfl nqq) ?_
        refine TA.take 5 rfl rfl rfl rfl (by kernel_rfl) (by kernel_rfl) (by kernel_rfl) rfl (by kernel_rfl) (by kernel_rfl) (fun _ _ _ h => h) (Y.load rfl sc9 rfl celD) ?_
        refine TA.as (vS key) (by rfl) ?_
        refine TA.take 6 rfl rfl rfl rfl (by kernel_rfl) (by kernel_rfl) (by kernel_rfl) rfl (by kernel_rfl) (by kernel_rfl) (fun _ _ _ h => h) (Y.eqB rfl rfl rfl) ?_
        refine TA.done (by kernel_rfl) ?_
        refine TQ.next ?_
        refine TC.cond rfl (fun c4 => ?_) (fun c4 => ?_)
        · try simp only [decide_eq_true_eq, decide_eq_false_iff_not, Bool.not_eq_true', Bool.not_eq_false', Bool.and_eq_true, Bool.or_eq_true, Nat.not_lt, Nat.not_le, beq_iff_eq, bne_iff_ne] at c4
          have hnt : some j = Fi (l.take (j + 1)) key := by rw [hfs, if_pos (by simpa using c4)]
          refine TC.region ?_
          refine TL.val rfl rfl rfl (Y.move rfl rfl) ?_
          refine TL.val rfl rfl rfl (Y.assign rfl rfl) ?_
          refine TL.nil ?_
          refine TQ.block_normal ?_
          refine TQ.next ?_
          refine TC.region ?_
          refine TL.val rfl rfl rfl (Y.bin rfl rfl rfl (br_addN (n := 1) (by omega))) ?_
          refine TL.val rfl rfl rfl (Y.move rfl rfl) ?_
          refine TL.nil ?_
          refine TQ.loopF ((by first | (have := hnt; exact (j + 1, some j)) | exact (j + 1, r))) ((by first | exact ⟨by simp only; omega, hnt⟩ | exact ⟨by simp only; omega, hnf⟩)) (by simp only; omega) ⟨rfl, rfl, trivial⟩ (by (repeat first | apply Grow.refl | apply Grow.step | apply Grow.app)) ?_ ?_ ?_
          · kernel_rfl
          · rfl
          · simp only [List.cons_append, List.nil_append]
            exact ett
        · try simp only [decide_eq_true_eq, decide_eq_false_iff_not, Bool.not_eq_true', Bool.not_eq_false', Bool.and_eq_true, Bool.or_eq_true, Nat.not_lt, Nat.not_le, beq_iff_eq, bne_iff_ne] at c4
          have hnf : r = Fi (l.take (j + 1)) key := by rw [hfs, if_neg (by simpa using c4)]; exact hr
          refine TC.skip ?_
          refine TQ.block_normal ?_
          refine TQ.next ?_
          refine TC.region ?_
          refine TL.val rfl rfl rfl (Y.bin rfl rfl rfl (br_addN (n := 1) (by omega))) ?_
          refine TL.val rfl rfl rfl (Y.move rfl rfl) ?_
          refine TL.nil ?_
          refine TQ.loopF ((by first | (have := hnt; exact (j + 1, some j)) | exact (j + 1, r))) ((by first | exact ⟨by simp only; omega, hnt⟩ | exact ⟨by simp only; omega, hnf⟩)) (by simp only; omega) ⟨rfl, rfl, trivial⟩ (by (repeat first | apply Grow.refl | apply Grow.step | apply Grow.app)) ?_ ?_ ?_
          · kernel_rfl
          · rfl
          · simp only [List.cons_append, List.nil_append]
            exact ett
      · try simp only [decide_eq_true_eq, decide_eq_false_iff_not, Bool.not_eq_true', Bool.not_eq_false', Bool.and_eq_true, Bool.or_eq_true, Nat.not_lt, Nat.not_le, beq_iff_eq, bne_iff_ne] at c3
        obtain rfl : j = l.length := by omega
        rw [List.take_length] at hr
        refine TC.exit ?_
        refine TQ.then_exit ?_
        refine TQ.then_exit ?_
        refine TQ.block_exit ?_
        refine TQ.next ?_
        refine TC.cutF (ι := List ET × (Option Addr × Nat) × (Option Addr × Nat)) [] (fun i => i.1.length ≤ M ∧ (i.1.map Prod.fst).Nodup) (fun i => []) (fun i => [tbs.TB tb27 M i.1, SA.blk b8 #[.slice i.2.1.1 i.1.length i.2.1.2] 42, KO i.2.1.1 i.2.1.2 i.1, SA.blk b9 #[.slice i.2.2.1 i.1.length i.2.2.2] 29, VO i.2.2.1 i.2.2.2 i.1]) (Ao := [tbs.TB tb27 M l, SA.blk b8 #[.slice ka l.length kc] 42, KO ka kc l, SA.blk b9 #[.slice va l.length vc] 29, VO va vc l]) (Pulls.cons pul (Pulls.cons pul (Pulls.cons pul (Pulls.cons pul (Pulls.cons pul Pulls.nil))))) ?_ ?_
        · rintro L' hL'
          simp only [List.cons_append, List.nil_append] at hL'
          subst hL'
          refine TC.seq ?_
          refine TC.region ?_
          refine TL.val rfl rfl rfl (by first | exact Y.fieldAddrJ rfl fo44_0 rfl nqq | exact Y.fieldAddr rfl fo44_0 rfl nqq) ?_
          refine TL.val rfl rfl rfl (Y.load rfl sc3 rfl celN) ?_
          refine TL.as (vI kind) (by rfl) ?_
          refine TL.nil ?_
          refine TQ.next ?_
          refine TC.block ?_
          refine TC.seq ?_
          refine TC.region ?_
          refine TL.val rfl rfl rfl (Y.bin rfl rfl rfl (br_eqI (n := 1))) ?_
          refine TL.val rfl rfl rfl (Y.assign rfl rfl) ?_
          refine TL.nil ?_
          refine TQ.next ?_
          refine TC.cond rfl (fun c5 => ?_) (fun c5 => ?_)
          · try simp only [decide_eq_true_eq, decide_eq_false_iff_not, Bool.not_eq_true', Bool.not_eq_false', Bool.and_eq_true, Bool.or_eq_true, Nat.not_lt, Nat.not_le, beq_iff_eq, bne_iff_ne] at c5
            refine TC.seq ?_
            refine TC.region ?_
            refine TL.val rfl rfl rfl (Y.move rfl rfl) ?_
            refine TL.val rfl rfl rfl (Y.bin rfl rfl rfl (br_geI (n := 0))) ?_
            refine TL.as (.bool r.isSome) (by (rw [← isS])) ?_
            refine TL.val rfl rfl rfl (Y.move rfl rfl) ?_
            refine TL.case (fun g25_2 => ?_) (fun g25_2 => ?_)
            · try simp only [decide_eq_true_eq, decide_eq_false_iff_not, Bool.not_eq_true', Bool.not_eq_false', Nat.not_lt, Nat.not_le, beq_iff_eq, bne_iff_ne] at g25_2
              refine TL.not rfl rfl rfl ?_
              refine TL.not rfl rfl rfl ?_
              refine TL.not rfl rfl rfl ?_
              refine TL.not rfl rfl rfl ?_
              refine TL.val rfl rfl rfl (Y.pick_t rfl rfl rfl) ?_
              refine TL.val rfl rfl rfl (Y.assign rfl rfl) ?_
              refine TL.nil ?_
              refine TQ.next ?_
              refine TC.seq ?_
              refine TC.seq ?_
              have hfit : (tput M l key num).2 = (r.isSome || decide (l.length < M)) := by rw [hr]; exact tput_fit hl
              refine TC.region ?_
              refine TL.val rfl rfl rfl (Y.move rfl rfl) ?_
              refine TL.val rfl rfl rfl (by first | exact Y.fieldAddrJ rfl fo44_1 rfl nqq | exact Y.fieldAddr rfl fo44_1 rfl nqq) ?_
              refine TL.val rfl rfl rfl (Y.load rfl sc9 rfl celD) ?_
              refine TL.as (vS key) (by rfl) ?_
              refine TL.val rfl rfl rfl (by first | exact Y.fieldAddrJ rfl fo44_2 rfl nqq | exact Y.fieldAddr rfl fo44_2 rfl nqq) ?_
              refine TL.val rfl rfl rfl (Y.load rfl sc21 rfl celD) ?_
              refine TL.as (.int .i32 num.n) (by rfl) ?_
              refine TL.eff rfl rfl rfl (X.call rfl Try.func20 (by kernel_rfl) rfl rfl (Fn.preE (by repeat first | (with_reducible apply Ent.refl) | (apply Ent.cons; case h => first | (with_reducible (repeat first | apply Pull.here | apply Pull.there); done) | (repeat first | apply Pull.here | apply Pull.there))) (tbs.Put_fn _ _ l key num (by omega) _))) ?_
              rintro _ _ ⟨rfl, rfl⟩
              refine TL.val rfl rfl rfl (Y.move rfl rfl) ?_
              refine TL.val rfl rfl rfl (Y.neBool rfl Try.underlying4 rfl rfl) ?_
              refine TL.is false (by (rw [hfit]; simp [g25_2])) ?_
              refine TL.nil ?_
              refine TQ.next ?_
              refine TC.cond_f rfl ?_
              refine TC.skip ?_
              refine TQ.next ?_
              refine TC.seq ?_
              refine TC.region ?_
              refine TL.val rfl rfl rfl (Y.move rfl rfl) ?_
              refine TL.val rfl rfl rfl (Y.bin rfl rfl rfl (br_geI (n := 0))) ?_
              refine TL.is true (by (rw [isS]; exact g25_2)) ?_
              refine TL.nil ?_
              refine TQ.next ?_
              refine TC.cond_t rfl ?_
              obtain ⟨j0, rfl⟩ := Option.isSome_iff_exists.1 g25_2
              obtain ⟨hj0, y0, hy0, -⟩ := Fi_some hr.symm
              have hTset : tput M l key num = (l.set j0 (key, num), true) := tput_some hr.symm
              rw [show vI (iv (some j0)) = vN j0 from rfl]
              refine TC.know (owns_some (e := 21) (n := l.length) (a := va) inn (by omega)) ?_
              rintro ⟨gv, offv, rfl⟩
              refine TC.region ?_
              refine TL.val rfl rfl rfl (Y.load rfl sc29 rfl celD) ?_
              refine TL.as (.slice (some ⟨gv, offv, none⟩) l.length vc) (by rfl) ?_
              refine TL.val rfl rfl rfl (Y.move rfl rfl) ?_
              refine TL.val rfl rfl rfl (by first | exact Y.fieldAddrJ rfl fo44_2 rfl nqq | exact Y.fieldAddr rfl fo44_2 rfl nqq) ?_
              refine TL.val rfl rfl rfl (Y.load rfl sc21 rfl celD) ?_
              refine TL.as (.int .i32 num.n) (by rfl) ?_
              refine TL.val rfl rfl rfl (by first | exact Y.indexSlB rfl sl29 rfl rfl (by omega) nqq | exact Y.indexSl rfl sl29 rfl rfl (by omega) nqq) ?_
              refine TL.eff0 rfl rfl (X.storeOwn (j := j0) rfl (by kernel_rfl) rfl rfl rfl rfl pul (by omega) (set_snd hy0)) ?_
              rintro _ _ rfl
              refine TL.nil ?_
              refine TQ.block_normal ?_
              refine TQ.meetF ((by first | exact (l ++ [(key, num)], (a115, c115), (a120, c120)) | exact (l.eraseIdx j0, (a141, c141), (a151, c151)) | (have := hTset; exact (l.set j0 (key, num), (ka, kc), (some ⟨gv, offv, none⟩, vc))) | exact (l, (ka, kc), (some ⟨gv, offv, none⟩, vc)) | exact (l, (ka, kc), (va, vc)))) ((by first | (have h := tput_len (q := key) (x := num) hl; have h2 := nodup_put (M := M) (q := key) (x := num) hn; rw [hTset] at h h2; exact ⟨h, h2⟩) | (have h := tput_len (q := key) (x := num) hl; have h2 := nodup_put (M := M) (q := key) (x := num) hn; rw [hTnew] at h h2; exact ⟨h, h2⟩) | (have h := tdrop_le' (q := key) hl; have h2 := nodup_drop (q := key) hn; rw [hTdrop] at h h2; exact ⟨h, h2⟩) | exact ⟨hl, hn⟩)) trivial (by (repeat first | apply Grow.refl | apply Grow.step | apply Grow.app)) ?_ ?_
              · kernel_rfl
              · simp only [List.cons_append, List.nil_append]
                exact (by first | (simp only [KO, VO, hTset, List.length_set, set_fst hy0]; exact ett) | (rw [hTnew]; exact ett) | (rw [hTfull]; exact ett) | (rw [hTdrop]; exact ett) | (rw [hTdn]; exact ett) | exact ett)
            · try simp only [decide_eq_true_eq, decide_eq_false_iff_not, Bool.not_eq_true', Bool.not_eq_false', Nat.not_lt, Nat.not_le, beq_iff_eq, bne_iff_ne] at g25_2
              refine TL.valG rfl rfl rfl (Y.load rfl sc42 rfl celD) ?_
              refine TL.as (.slice ka l.length kc) (by rfl) ?_
              refine TL.valG rfl rfl rfl (Y.len rfl Try.underlying42 rfl) ?_
              refine TL.valG rfl rfl rfl (Y.move rfl rfl) ?_
              refine TL.valG rfl rfl rfl (Y.bin rfl rfl rfl (br_ltN)) ?_
              refine TL.val rfl rfl rfl (Y.pick_f rfl rfl rfl) ?_
              refine TL.val rfl rfl rfl (Y.assign rfl rfl) ?_
              refine TL.nil ?_
              refine TQ.next ?_
              refine TC.seq ?_
              refine TC.seq ?_
              have hfit : (tput M l key num).2 = (r.isSome || decide (l.length < M)) := by rw [hr]; exact tput_fit hl
              refine TC.region ?_
              refine TL.val rfl rfl rfl (Y.move rfl rfl) ?_
              refine TL.val rfl rfl rfl (by first | exact Y.fieldAddrJ rfl fo44_1 rfl nqq | exact Y.fieldAddr rfl fo44_1 rfl nqq) ?_
              refine TL.val rfl rfl rfl (Y.load rfl sc9 rfl celD) ?_
              refine TL.as (vS key) (by rfl) ?_
              refine TL.val rfl rfl rfl (by first | exact Y.fieldAddrJ rfl fo44_2 rfl nqq | exact Y.fieldAddr rfl fo44_2 rfl nqq) ?_
              refine TL.val rfl rfl rfl (Y.load rfl sc21 rfl celD) ?_
              refine TL.as (.int .i32 num.n) (by rfl) ?_
              refine TL.eff rfl rfl rfl (X.call rfl Try.func20 (by kernel_rfl) rfl rfl (Fn.preE (by repeat first | (with_reducible apply Ent.refl) | (apply Ent.cons; case h => first | (with_reducible (repeat first | apply Pull.here | apply Pull.there); done) | (repeat first | apply Pull.here | apply Pull.there))) (tbs.Put_fn _ _ l key num (by omega) _))) ?_
              rintro _ _ ⟨rfl, rfl⟩
              refine TL.val rfl rfl rfl (Y.move rfl rfl) ?_
              refine TL.val rfl rfl rfl (Y.neBool rfl Try.underlying4 rfl rfl) ?_
              refine TL.is false (by (rw [hfit]; simp [g25_2])) ?_
              refine TL.nil ?_
              refine TQ.next ?_
              refine TC.cond_f rfl ?_
              refine TC.skip ?_
              refine TQ.next ?_
              refine TC.seq ?_
              refine TC.region ?_
              refine TL.val rfl rfl rfl (Y.move rfl rfl) ?_
              refine TL.val rfl rfl rfl (Y.bin rfl rfl rfl (br_geI (n := 0))) ?_
              refine TL.is false (by (rw [isS]; exact g25_2)) ?_
              refine TL.nil ?_
              refine TQ.next ?_
              refine TC.cond_f rfl ?_
              refine TC.seq ?_
              have hrn : r = none := by cases r with
                | none => rfl
                | some j => simp at g25_2
              have hF : Fi l key = none := by rw [← hr, hrn]
              refine TC.region ?_
              refine TL.val rfl rfl rfl (Y.move rfl rfl) ?_
              refine TL.nil ?_
              refine TQ.next ?_
              refine TC.cond rfl (fun c8 => ?_) (fun c8 => ?_)
              · try simp only [decide_eq_true_eq, decide_eq_false_iff_not, Bool.not_eq_true', Bool.not_eq_false', Bool.and_eq_true, Bool.or_eq_true, Nat.not_lt, Nat.not_le, beq_iff_eq, bne_iff_ne] at c8
                have hTnew : tput M l key num = (l ++ [(key, num)], true) := by
                  first
                  | (exfalso; rw [hrn] at g25_2; simp at g25_2; done)
                  | exact tput_new hF (by omega)
                refine TC.draws 10 [SA.blk b8 #[.slice ka l.length kc] 42, SA.blk b9 #[.slice va l.length vc] 29, SA.blk b11 #[vI kind, vS key, .int .i32 num.n] 44] (by kernel_rfl) (by kernel_rfl) (by repeat first | exact holds_nil | refine holds_cons inn ?_) ?_
                refine TA.take 0 rfl rfl rfl rfl (by kernel_rfl) (by kernel_rfl) (by kernel_rfl) rfl (by kernel_rfl) (by kernel_rfl) (fun _ _ _ h => h) (Y.load rfl sc42 rfl celD) ?_
                refine TA.as (.slice ka l.length kc) (by rfl) ?_
                refine TA.take 1 rfl rfl rfl rfl (by kernel_rfl) (by kernel_rfl) (by kernel_rfl) rfl (by kernel_rfl) (by kernel_rfl) (fun _ _ _ h => h) (by first | exact Y.fieldAddrJ rfl fo44_1 rfl nqq | exact Y.fieldAddr rfl fo44_1 rfl nqq) ?_
                refine TA.take 2 rfl rfl rfl rfl (by kernel_rfl) (by kernel_rfl) (by kernel_rfl) rfl (by kernel_rfl) (by kernel_rfl) (fun _ _ _ h => h) (Y.load rfl sc9 rfl celD) ?_
                refine TA.as (vS key) (by rfl) ?_
                refine TA.takeP 6 rfl rfl rfl rfl (by kernel_rfl) (by kernel_rfl) (by kernel_rfl) rfl (fun _ _ _ h => h) (by first | exact Y.fieldAddrJ rfl fo44_2 rfl nqq | exact Y.fieldAddr rfl fo44_2 rfl nqq) ?_
                refine TA.any (rs := [3, 5, 7]) (by kernel_rfl) (by simp) ?_
                simp only [List.forall_mem_cons, List.not_mem_nil, false_implies, implies_true, and_true]
                refine ⟨?_, ?_, ?_⟩
                · skip
                  refine TAo.eff rfl rfl rfl rfl (X.lit rfl el42 rfl rfl rfl (by decide) rfl) ?_
                  rintro _ _ ⟨g114, rfl, rfl⟩
                  refine ⟨(Or.inr (by repeat first | exact holds_nil | refine holds_cons inn ?_)), ?_⟩
                  refine TA.any (rs := [4, 5, 7]) (by kernel_rfl) (by simp) ?_
                  simp only [List.forall_mem_cons, List.not_mem_nil, false_implies, implies_true, and_true]
                  refine ⟨?_, ?_, ?_⟩
                  · skip
                    refine TAo.eff rfl rfl rfl rfl (X.appendS rfl el42 rfl pul rfl (by first | exact Src.owns Try.underlying42 inn | exact Src.rds Try.underlying42 inn | exact Src.reads (by assumption) Try.underlying42 inn) (by simp only [maxLen]; omega) (by omega)) ?_
                    rintro _ _ ⟨a115, c115, rfl, rfl⟩
                    rw [show Dat.cs (l.map Prod.fst) ++ [vS key] = Dat.cs ((l ++ [(key, num)]).map Prod.fst) by rw [List.map_append, Dat.cs_app]; rfl, show l.length + 1 = (l ++ [(key, num)]).length by simp]
                    refine ⟨(Or.inr (by repeat first | exact holds_nil | refine holds_cons inn ?_)), ?_⟩
                    refine TA.any (rs := [5, 7]) (by kernel_rfl) (by simp) ?_
                    simp only [List.forall_mem_cons, List.not_mem_nil, false_implies, implies_true, and_true]
                    refine ⟨?_, ?_⟩
                    · skip
                      refine TAo.eff rfl rfl rfl rfl (Eff.val (fun _ h => by cases h) (Y.load rfl sc29 rfl celD)) ?_
                      rintro _ _ ⟨rfl, rfl⟩
                      refine ⟨Or.inr (by repeat first | exact holds_nil | refine holds_cons inn ?_), ?_⟩
                      refine TA.as (.slice va l.length vc) (by rfl) ?_
                      refine TA.one 7 (by kernel_rfl) rfl rfl rfl rfl (Eff.val (fun _ h => by cases h) (Y.load rfl sc21 rfl celD)) ?_
                      rintro _ _ ⟨rfl, rfl⟩
                      refine ⟨Or.inr (by repeat first | exact holds_nil | refine holds_cons inn ?_), ?_⟩
                      refine TA.as (.int .i32 num.n) (by rfl) ?_
                      refine TA.one 8 (by kernel_rfl) rfl rfl rfl rfl (X.lit rfl el29 rfl rfl rfl (by decide) rfl) ?_
                      rintro _ _ ⟨g119, rfl, rfl⟩
                      refine ⟨(Or.inr (by repeat first | exact holds_nil | refine holds_cons inn ?_)), ?_⟩
                      refine TA.one 9 (by kernel_rfl) rfl rfl rfl rfl (X.appendS rfl el29 rfl pul rfl (by first | exact Src.owns Try.underlying29 inn | exact Src.rds Try.underlying29 inn | exact Src.reads (by assumption) Try.underlying29 inn) (by simp only [maxLen]; omega) (by omega)) ?_
                      rintro _ _ ⟨a120, c120, rfl, rfl⟩
                      rw [show Dat.cs (l.map Prod.snd) ++ [Value.int .i32 num.n] = Dat.cs ((l ++ [(key, num)]).map Prod.snd) by rw [List.map_append, Dat.cs_app]; rfl, show l.length + 1 = (l ++ [(key, num)]).length by simp]
                      refine ⟨(Or.inr (by repeat first | exact holds_nil | refine holds_cons inn ?_)), ?_⟩
                      refine TA.one0 10 (by kernel_rfl) rfl rfl rfl (by first | exact X.store rfl sz42 rfl rfl rfl pul lnn (by first | exact setM | rfl) | exact X.storeOwn rfl sz42 rfl (Nat.zero_add _).symm rfl rfl pul lnn (by first | exact setML | rfl) | exact X.storeOwn rfl sz42 rfl rfl rfl rfl pul lnn (by first | exact setML | rfl)) ?_
                      rintro _ _ rfl
                      refine ⟨(Or.inl (by kernel_rfl)), ?_⟩
                      refine TA.one0 11 (by kernel_rfl) rfl rfl rfl (by first | exact X.store rfl sz29 rfl rfl rfl pul lnn (by first | exact setM | rfl) | exact X.storeOwn rfl sz29 rfl (Nat.zero_add _).symm rfl rfl pul lnn (by first | exact setML | rfl) | exact X.storeOwn rfl sz29 rfl rfl rfl rfl pul lnn (by first | exact setML | rfl)) ?_
                      rintro _ _ rfl
                      refine ⟨(Or.inl (by kernel_rfl)), ?_⟩
                      refine TA.done (by kernel_rfl) ?_
                      refine TQ.block_normal ?_
                      refine TQ.meetF ((by first | exact (l ++ [(key, num)], (a115, c115), (a120, c120)) | exact (l.eraseIdx j0, (a141, c141), (a151, c151)) | (have := hTset; exact (l.set j0 (key, num), (ka, kc), (some ⟨gv, offv, none⟩, vc))) | exact (l, (ka, kc), (some ⟨gv, offv, none⟩, vc)) | exact (l, (ka, kc), (va, vc)))) ((by first | (have h := tput_len (q := key) (x := num) hl; have h2 := nodup_put (M := M) (q := key) (x := num) hn; rw [hTset] at h h2; exact ⟨h, h2⟩) | (have h := tput_len (q := key) (x := num) hl; have h2 := nodup_put (M := M) (q := key) (x := num) hn; rw [hTnew] at h h2; exact ⟨h, h2⟩) | (have h := tdrop_le' (q := key) hl; have h2 := nodup_drop (q := key) hn; rw [hTdrop] at h h2; exact ⟨h, h2⟩) | exact ⟨hl, hn⟩)) trivial (by (repeat first | apply Grow.refl | apply Grow.step | apply Grow.app)) ?_ ?_
                      · kernel_rfl
                      · simp only [List.cons_append, List.nil_append]
                        exact (by first | (simp only [KO, VO, hTset, List.length_set, set_fst hy0]; exact ett) | (rw [hTnew]; exact ett) | (rw [hTfull]; exact ett) | (rw [hTdrop]; exact ett) | (rw [hTdn]; exact ett) | exact ett)
                    · skip
                      refine TAo.eff rfl rfl rfl rfl (Eff.val (fun _ h => by cases h) (Y.load rfl sc21 rfl celD)) ?_
                      rintro _ _ ⟨rfl, rfl⟩
                      refine ⟨Or.inr (by repeat first | exact holds_nil | refine holds_cons inn ?_), ?_⟩
                      refine TA.as (.int .i32 num.n) (by rfl) ?_
                      refine TA.any (rs := [5, 8]) (by kernel_rfl) (by simp) ?_
                      simp only [List.forall_mem_cons, List.not_mem_nil, false_implies, implies_true, and_true]
                      refine ⟨?_, ?_⟩
                      · skip
                        refine TAo.eff rfl rfl rfl rfl (Eff.val (fun _ h => by cases h) (Y.load rfl sc29 rfl celD)) ?_
                        rintro _ _ ⟨rfl, rfl⟩
                        refine ⟨Or.inr (by repeat first | exact holds_nil | refine holds_cons inn ?_), ?_⟩
                        refine TA.as (.slice va l.length vc) (by rfl) ?_
                        refine TA.one 8 (by kernel_rfl) rfl rfl rfl rfl (X.lit rfl el29 rfl rfl rfl (by decide) rfl) ?_
                        rintro _ _ ⟨g119, rfl, rfl⟩
                        refine ⟨(Or.inr (by repeat first | exact holds_nil | refine holds_cons inn ?_)), ?_⟩
                        refine TA.one 9 (by kernel_rfl) rfl rfl rfl rfl (X.appendS rfl el29 rfl pul rfl (by first | exact Src.owns Try.underlying29 inn | exact Src.rds Try.underlying29 inn | exact Src.reads (by assumption) Try.underlying29 inn) (by simp only [maxLen]; omega) (by omega)) ?_
                        rintro _ _ ⟨a120, c120, rfl, rfl⟩
                        rw [show Dat.cs (l.map Prod.snd) ++ [Value.int .i32 num.n] = Dat.cs ((l ++ [(key, num)]).map Prod.snd) by rw [List.map_append, Dat.cs_app]; rfl, show l.length + 1 = (l ++ [(key, num)]).length by simp]
                        refine ⟨(Or.inr (by repeat first | exact holds_nil | refine holds_cons inn ?_)), ?_⟩
                        refine TA.one0 10 (by kernel_rfl) rfl rfl rfl (by first | exact X.store rfl sz42 rfl rfl rfl pul lnn (by first | exact setM | rfl) | exact X.storeOwn rfl sz42 rfl (Nat.zero_add _).symm rfl rfl pul lnn (by first | exact setML | rfl) | exact X.storeOwn rfl sz42 rfl rfl rfl rfl pul lnn (by first | exact setML | rfl)) ?_
                        rintro _ _ rfl
                        refine ⟨(Or.inl (by kernel_rfl)), ?_⟩
                        refine TA.one0 11 (by kernel_rfl) rfl rfl rfl (by first | exact X.store rfl sz29 rfl rfl rfl pul lnn (by first | exact setM | rfl) | exact X.storeOwn rfl sz29 rfl (Nat.zero_add _).symm rfl rfl pul lnn (by first | exact setML | rfl) | exact X.storeOwn rfl sz29 rfl rfl rfl rfl pul lnn (by first | exact setML | rfl)) ?_
                        rintro _ _ rfl
                        refine ⟨(Or.inl (by kernel_rfl)), ?_⟩
                        refine TA.done (by kernel_rfl) ?_
                        refine TQ.block_normal ?_
                        refine TQ.meetF ((by first | exact (l ++ [(key, num)], (a115, c115), (a120, c120)) | exact (l.eraseIdx j0, (a141, c141), (a151, c151)) | (have := hTset; exact (l.set j0 (key, num), (ka, kc), (some ⟨gv, offv, none⟩, vc))) | exact (l, (ka, kc), (some ⟨gv, offv, none⟩, vc)) | exact (l, (ka, kc), (va, vc)))) ((by first | (have h := tput_len (q := key) (x := num) hl; have h2 := nodup_put (M := M) (q := key) (x := num) hn; rw [hTset] at h h2; exact ⟨h, h2⟩) | (have h := tput_len (q := key) (x := num) hl; have h2 := nodup_put (M := M) (q := key) (x := num) hn; rw [hTnew] at h h2; exact ⟨h, h2⟩) | (have h := tdrop_le' (q := key) hl; have h2 := nodup_drop (q := key) hn; rw [hTdrop] at h h2; exact ⟨h, h2⟩) | exact ⟨hl, hn⟩)) trivial (by (repeat first | apply Grow.refl | apply Grow.step | apply Grow.app)) ?_ ?_
                        · kernel_rfl
                        · simp only [List.cons_append, List.nil_append]
                          exact (by first | (simp only [KO, VO, hTset, List.length_set, set_fst hy0]; exact ett) | (rw [hTnew]; exact ett) | (rw [hTfull]; exact ett) | (rw [hTdrop]; exact ett) | (rw [hTdn]; exact ett) | exact ett)
                      · skip
                        refine TAo.eff rfl rfl rfl rfl (X.lit rfl el29 rfl rfl rfl (by decide) rfl) ?_
                        rintro _ _ ⟨g119, rfl, rfl⟩
                        refine ⟨(Or.inr (by repeat first | exact holds_nil | refine holds_cons inn ?_)), ?_⟩
                        refine TA.one 5 (by kernel_rfl) rfl rfl rfl rfl (Eff.val (fun _ h => by cases h) (Y.load rfl sc29 rfl celD)) ?_
                        rintro _ _ ⟨rfl, rfl⟩
                        refine ⟨Or.inr (by repeat first | exact holds_nil | refine holds_cons inn ?_), ?_⟩
                        refine TA.as (.slice va l.length vc) (by rfl) ?_
                        refine TA.one 9 (by kernel_rfl) rfl rfl rfl rfl (X.appendS rfl el29 rfl pul rfl (by first | exact Src.owns Try.underlying29 inn | exact Src.rds Try.underlying29 inn | exact Src.reads (by assumption) Try.underlying29 inn) (by simp only [maxLen]; omega) (by omega)) ?_
                        rintro _ _ ⟨a120, c120, rfl, rfl⟩
                        rw [show Dat.cs (l.map Prod.snd) ++ [Value.int .i32 num.n] = Dat.cs ((l ++ [(key, num)]).map Prod.snd) by rw [List.map_append, Dat.cs_app]; rfl, show l.length + 1 = (l ++ [(key, num)]).length by simp]
                        refine ⟨(Or.inr (by repeat first | exact holds_nil | refine holds_cons inn ?_)), ?_⟩
                        refine TA.one0 10 (by kernel_rfl) rfl rfl rfl (by first | exact X.store rfl sz42 rfl rfl rfl pul lnn (by first | exact setM | rfl) | exact X.storeOwn rfl sz42 rfl (Nat.zero_add _).symm rfl rfl pul lnn (by first | exact setML | rfl) | exact X.storeOwn rfl sz42 rfl rfl rfl rfl pul lnn (by first | exact setML | rfl)) ?_
                        rintro _ _ rfl
                        refine ⟨(Or.inl (by kernel_rfl)), ?_⟩
                        refine TA.one0 11 (by kernel_rfl) rfl rfl rfl (by first | exact X.store rfl sz29 rfl rfl rfl pul lnn (by first | exact setM | rfl) | exact X.storeOwn rfl sz29 rfl (Nat.zero_add _).symm rfl rfl pul lnn (by first | exact setML | rfl) | exact X.storeOwn rfl sz29 rfl rfl rfl rfl pul lnn (by first | exact setML | rfl)) ?_
                        rintro _ _ rfl
                        refine ⟨(Or.inl (by kernel_rfl)), ?_⟩
                        refine TA.done (by kernel_rfl) ?_
                        refine TQ.block_normal ?_
                        refine TQ.meetF ((by first | exact (l ++ [(key, num)], (a115, c115), (a120, c120)) | exact (l.eraseIdx j0, (a141, c141), (a151, c151)) | (have := hTset; exact (l.set j0 (key, num), (ka, kc), (some ⟨gv, offv, none⟩, vc))) | exact (l, (ka, kc), (some ⟨gv, offv, none⟩, vc)) | exact (l, (ka, kc), (va, vc)))) ((by first | (have h := tput_len (q := key) (x := num) hl; have h2 := nodup_put (M := M) (q := key) (x := num) hn; rw [hTset] at h h2; exact ⟨h, h2⟩) | (have h := tput_len (q := key) (x := num) hl; have h2 := nodup_put (M := M) (q := key) (x := num) hn; rw [hTnew] at h h2; exact ⟨h, h2⟩) | (have h := tdrop_le' (q := key) hl; have h2 := nodup_drop (q := key) hn; rw [hTdrop] at h h2; exact ⟨h, h2⟩) | exact ⟨hl, hn⟩)) trivial (by (repeat first | apply Grow.refl | apply Grow.step | apply Grow.app)) ?_ ?_
                        · kernel_rfl
                        · simp only [List.cons_append, List.nil_append]
                          exact (by first | (simp only [KO, VO, hTset, List.length_set, set_fst hy0]; exact ett) | (rw [hTnew]; exact ett) | (rw [hTfull]; exact ett) | (rw [hTdrop]; exact ett) | (rw [hTdn]; exact ett) | exact ett)
                  · skip
                    refine TAo.eff rfl rfl rfl rfl (Eff.val (fun _ h => by cases h) (Y.load rfl sc29 rfl celD)) ?_
                    rintro _ _ ⟨rfl, rfl⟩
                    refine ⟨Or.inr (by repeat first | exact holds_nil | refine holds_cons inn ?_), ?_⟩
                    refine TA.as (.slice va l.length vc) (by rfl) ?_
                    refine TA.any (rs := [4, 7]) (by kernel_rfl) (by simp) ?_
                    simp only [List.forall_mem_cons, List.not_mem_nil, false_implies, implies_true, and_true]
                    refine ⟨?_, ?_⟩
                    · skip
                      refine TAo.eff rfl rfl rfl rfl (X.appendS rfl el42 rfl pul rfl (by first | exact Src.owns Try.underlying42 inn | exact Src.rds Try.underlying42 inn | exact Src.reads (by assumption) Try.underlying42 inn) (by simp only [maxLen]; omega) (by omega)) ?_
                      rintro _ _ ⟨a115, c115, rfl, rfl⟩
                      rw [show Dat.cs (l.map Prod.fst) ++ [vS key] = Dat.cs ((l ++ [(key, num)]).map Prod.fst) by rw [List.map_append, Dat.cs_app]; rfl, show l.length + 1 = (l ++ [(key, num)]).length by simp]
                      refine ⟨(Or.inr (by repeat first | exact holds_nil | refine holds_cons inn ?_)), ?_⟩
                      refine TA.one 7 (by kernel_rfl) rfl rfl rfl rfl (Eff.val (fun _ h => by cases h) (Y.load rfl sc21 rfl celD)) ?_
                      rintro _ _ ⟨rfl, rfl⟩
                      refine ⟨Or.inr (by repeat first | exact holds_nil | refine holds_cons inn ?_), ?_⟩
                      refine TA.as (.int .i32 num.n) (by rfl) ?_
                      refine TA.one 8 (by kernel_rfl) rfl rfl rfl rfl (X.lit rfl el29 rfl rfl rfl (by decide) rfl) ?_
                      rintro _ _ ⟨g119, rfl, rfl⟩
                      refine ⟨(Or.inr (by repeat first | exact holds_nil | refine holds_cons inn ?_)), ?_⟩
                      refine TA.one 9 (by kernel_rfl) rfl rfl rfl rfl (X.appendS rfl el29 rfl pul rfl (by first | exact Src.owns Try.underlying29 inn | exact Src.rds Try.underlying29 inn | exact Src.reads (by assumption) Try.underlying29 inn) (by simp only [maxLen]; omega) (by omega)) ?_
                      rintro _ _ ⟨a120, c120, rfl, rfl⟩
                      rw [show Dat.cs (l.map Prod.snd) ++ [Value.int .i32 num.n] = Dat.cs ((l ++ [(key, num)]).map Prod.snd) by rw [List.map_append, Dat.cs_app]; rfl, show l.length + 1 = (l ++ [(key, num)]).length by simp]
                      refine ⟨(Or.inr (by repeat first | exact holds_nil | refine holds_cons inn ?_)), ?_⟩
                      refine TA.one0 10 (by kernel_rfl) rfl rfl rfl (by first | exact X.store rfl sz42 rfl rfl rfl pul lnn (by first | exact setM | rfl) | exact X.storeOwn rfl sz42 rfl (Nat.zero_add _).symm rfl rfl pul lnn (by first | exact setML | rfl) | exact X.storeOwn rfl sz42 rfl rfl rfl rfl pul lnn (by first | exact setML | rfl)) ?_
                      rintro _ _ rfl
                      refine ⟨(Or.inl (by kernel_rfl)), ?_⟩
                      refine TA.one0 11 (by kernel_rfl) rfl rfl rfl (by first | exact X.store rfl sz29 rfl rfl rfl pul lnn (by first | exact setM | rfl) | exact X.storeOwn rfl sz29 rfl (Nat.zero_add _).symm rfl rfl pul lnn (by first | exact setML | rfl) | exact X.storeOwn rfl sz29 rfl rfl rfl rfl pul lnn (by first | exact setML | rfl)) ?_
                      rintro _ _ rfl
                      refine ⟨(Or.inl (by kernel_rfl)), ?_⟩
                      refine TA.done (by kernel_rfl) ?_
                      refine TQ.block_normal ?_
                      refine TQ.meetF ((by first | exact (l ++ [(key, num)], (a115, c115), (a120, c120)) | exact (l.eraseIdx j0, (a141, c141), (a151, c151)) | (have := hTset; exact (l.set j0 (key, num), (ka, kc), (some ⟨gv, offv, none⟩, vc))) | exact (l, (ka, kc), (some ⟨gv, offv, none⟩, vc)) | exact (l, (ka, kc), (va, vc)))) ((by first | (have h := tput_len (q := key) (x := num) hl; have h2 := nodup_put (M := M) (q := key) (x := num) hn; rw [hTset] at h h2; exact ⟨h, h2⟩) | (have h := tput_len (q := key) (x := num) hl; have h2 := nodup_put (M := M) (q := key) (x := num) hn; rw [hTnew] at h h2; exact ⟨h, h2⟩) | (have h := tdrop_le' (q := key) hl; have h2 := nodup_drop (q := key) hn; rw [hTdrop] at h h2; exact ⟨h, h2⟩) | exact ⟨hl, hn⟩)) trivial (by (repeat first | apply Grow.refl | apply Grow.step | apply Grow.app)) ?_ ?_
                      · kernel_rfl
                      · simp only [List.cons_append, List.nil_append]
                        exact (by first | (simp only [KO, VO, hTset, List.length_set, set_fst hy0]; exact ett) | (rw [hTnew]; exact ett) | (rw [hTfull]; exact ett) | (rw [hTdrop]; exact ett) | (rw [hTdn]; exact ett) | exact ett)
                    · skip
                      refine TAo.eff rfl rfl rfl rfl (Eff.val (fun _ h => by cases h) (Y.load rfl sc21 rfl celD)) ?_
                      rintro _ _ ⟨rfl, rfl⟩
                      refine ⟨Or.inr (by repeat first | exact holds_nil | refine holds_cons inn ?_), ?_⟩
                      refine TA.as (.int .i32 num.n) (by rfl) ?_
                      refine TA.any (rs := [4, 8]) (by kernel_rfl) (by simp) ?_
                      simp only [List.forall_mem_cons, List.not_mem_nil, false_implies, implies_true, and_true]
                      refine ⟨?_, ?_⟩
                      · skip
                        refine TAo.eff rfl rfl rfl rfl (X.appendS rfl el42 rfl pul rfl (by first | exact Src.owns Try.underlying42 inn | exact Src.rds Try.underlying42 inn | exact Src.reads (by assumption) Try.underlying42 inn) (by simp only [maxLen]; omega) (by omega)) ?_
                        rintro _ _ ⟨a115, c115, rfl, rfl⟩
                        rw [show Dat.cs (l.map Prod.fst) ++ [vS key] = Dat.cs ((l ++ [(key, num)]).map Prod.fst) by rw [List.map_append, Dat.cs_app]; rfl, show l.length + 1 = (l ++ [(key, num)]).length by simp]
                        refine ⟨(Or.inr (by repeat first | exact holds_nil | refine holds_cons inn ?_)), ?_⟩
                        refine TA.one 8 (by kernel_rfl) rfl rfl rfl rfl (X.lit rfl el29 rfl rfl rfl (by decide) rfl) ?_
                        rintro _ _ ⟨g119, rfl, rfl⟩
                        refine ⟨(Or.inr (by repeat first | exact holds_nil | refine holds_cons inn ?_)), ?_⟩
                        refine TA.one 9 (by kernel_rfl) rfl rfl rfl rfl (X.appendS rfl el29 rfl pul rfl (by first | exact Src.owns Try.underlying29 inn | exact Src.rds Try.underlying29 inn | exact Src.reads (by assumption) Try.underlying29 inn) (by simp only [maxLen]; omega) (by omega)) ?_
                        rintro _ _ ⟨a120, c120, rfl, rfl⟩
                        rw [show Dat.cs (l.map Prod.snd) ++ [Value.int .i32 num.n] = Dat.cs ((l ++ [(key, num)]).map Prod.snd) by rw [List.map_append, Dat.cs_app]; rfl, show l.length + 1 = (l ++ [(key, num)]).length by simp]
                        refine ⟨(Or.inr (by repeat first | exact holds_nil | refine holds_cons inn ?_)), ?_⟩
                        refine TA.one0 10 (by kernel_rfl) rfl rfl rfl (by first | exact X.store rfl sz42 rfl rfl rfl pul lnn (by first | exact setM | rfl) | exact X.storeOwn rfl sz42 rfl (Nat.zero_add _).symm rfl rfl pul lnn (by first | exact setML | rfl) | exact X.storeOwn rfl sz42 rfl rfl rfl rfl pul lnn (by first | exact setML | rfl)) ?_
                        rintro _ _ rfl
                        refine ⟨(Or.inl (by kernel_rfl)), ?_⟩
                        refine TA.one0 11 (by kernel_rfl) rfl rfl rfl (by first | exact X.store rfl sz29 rfl rfl rfl pul lnn (by first | exact setM | rfl) | exact X.storeOwn rfl sz29 rfl (Nat.zero_add _).symm rfl rfl pul lnn (by first | exact setML | rfl) | exact X.storeOwn rfl sz29 rfl rfl rfl rfl pul lnn (by first | exact setML | rfl)) ?_
                        rintro _ _ rfl
                        refine ⟨(Or.inl (by kernel_rfl)), ?_⟩
                        refine TA.done (by kernel_rfl) ?_
                        refine TQ.block_normal ?_
                        refine TQ.meetF ((by first | exact (l ++ [(key, num)], (a115, c115), (a120, c120)) | exact (l.eraseIdx j0, (a141, c141), (a151, c151)) | (have := hTset; exact (l.set j0 (key, num), (ka, kc), (some ⟨gv, offv, none⟩, vc))) | exact (l, (ka, kc), (some ⟨gv, offv, none⟩, vc)) | exact (l, (ka, kc), (va, vc)))) ((by first | (have h := tput_len (q := key) (x := num) hl; have h2 := nodup_put (M := M) (q := key) (x := num) hn; rw [hTset] at h h2; exact ⟨h, h2⟩) | (have h := tput_len (q := key) (x := num) hl; have h2 := nodup_put (M := M) (q := key) (x := num) hn; rw [hTnew] at h h2; exact ⟨h, h2⟩) | (have h := tdrop_le' (q := key) hl; have h2 := nodup_drop (q := key) hn; rw [hTdrop] at h h2; exact ⟨h, h2⟩) | exact ⟨hl, hn⟩)) trivial (by (repeat first | apply Grow.refl | apply Grow.step | apply Grow.app)) ?_ ?_
                        · kernel_rfl
                        · simp only [List.cons_append, List.nil_append]
                          exact (by first | (simp only [KO, VO, hTset, List.length_set, set_fst hy0]; exact ett) | (rw [hTnew]; exact ett) | (rw [hTfull]; exact ett) | (rw [hTdrop]; exact ett) | (rw [hTdn]; exact ett) | exact ett)
                      · skip
                        refine TAo.eff rfl rfl rfl rfl (X.lit rfl el29 rfl rfl rfl (by decide) rfl) ?_
                        rintro _ _ ⟨g119, rfl, rfl⟩
                        refine ⟨(Or.inr (by repeat first | exact holds_nil | refine holds_cons inn ?_)), ?_⟩
                        refine TA.one 4 (by kernel_rfl) rfl rfl rfl rfl (X.appendS rfl el42 rfl pul rfl (by first | exact Src.owns Try.underlying42 inn | exact Src.rds Try.underlying42 inn | exact Src.reads (by assumption) Try.underlying42 inn) (by simp only [maxLen]; omega) (by omega)) ?_
                        rintro _ _ ⟨a115, c115, rfl, rfl⟩
                        rw [show Dat.cs (l.map Prod.fst) ++ [vS key] = Dat.cs ((l ++ [(key, num)]).map Prod.fst) by rw [List.map_append, Dat.cs_app]; rfl, show l.length + 1 = (l ++ [(key, num)]).length by simp]
                        refine ⟨(Or.inr (by repeat first | exact holds_nil | refine holds_cons inn ?_)), ?_⟩
                        refine TA.one 9 (by kernel_rfl) rfl rfl rfl rfl (X.appendS rfl el29 rfl pul rfl (by first | exact Src.owns Try.underlying29 inn | exact Src.rds Try.underlying29 inn | exact Src.reads (by assumption) Try.underlying29 inn) (by simp only [maxLen]; omega) (by omega)) ?_
                        rintro _ _ ⟨a120, c120, rfl, rfl⟩
                        rw [show Dat.cs (l.map Prod.snd) ++ [Value.int .i32 num.n] = Dat.cs ((l ++ [(key, num)]).map Prod.snd) by rw [List.map_append, Dat.cs_app]; rfl, show l.length + 1 = (l ++ [(key, num)]).length by simp]
                        refine ⟨(Or.inr (by repeat first | exact holds_nil | refine holds_cons inn ?_)), ?_⟩
                        refine TA.one0 10 (by kernel_rfl) rfl rfl rfl (by first | exact X.store rfl sz42 rfl rfl rfl pul lnn (by first | exact setM | rfl) | exact X.storeOwn rfl sz42 rfl (Nat.zero_add _).symm rfl rfl pul lnn (by first | exact setML | rfl) | exact X.storeOwn rfl sz42 rfl rfl rfl rfl pul lnn (by first | exact setML | rfl)) ?_
                        rintro _ _ rfl
                        refine ⟨(Or.inl (by kernel_rfl)), ?_⟩
                        refine TA.one0 11 (by kernel_rfl) rfl rfl rfl (by first | exact X.store rfl sz29 rfl rfl rfl pul lnn (by first | exact setM | rfl) | exact X.storeOwn rfl sz29 rfl (Nat.zero_add _).symm rfl rfl pul lnn (by first | exact setML | rfl) | exact X.storeOwn rfl sz29 rfl rfl rfl rfl pul lnn (by first | exact setML | rfl)) ?_
                        rintro _ _ rfl
                        refine ⟨(Or.inl (by kernel_rfl)), ?_⟩
                        refine TA.done (by kernel_rfl) ?_
                        refine TQ.block_normal ?_
                        refine TQ.meetF ((by first | exact (l ++ [(key, num)], (a115, c115), (a120, c120)) | exact (l.eraseIdx j0, (a141, c141), (a151, c151)) | (have := hTset; exact (l.set j0 (key, num), (ka, kc), (some ⟨gv, offv, none⟩, vc))) | exact (l, (ka, kc), (some ⟨gv, offv, none⟩, vc)) | exact (l, (ka, kc), (va, vc)))) ((by first | (have h := tput_len (q := key) (x := num) hl; have h2 := nodup_put (M := M) (q := key) (x := num) hn; rw [hTset] at h h2; exact ⟨h, h2⟩) | (have h := tput_len (q := key) (x := num) hl; have h2 := nodup_put (M := M) (q := key) (x := num) hn; rw [hTnew] at h h2; exact ⟨h, h2⟩) | (have h := tdrop_le' (q := key) hl; have h2 := nodup_drop (q := key) hn; rw [hTdrop] at h h2; exact ⟨h, h2⟩) | exact ⟨hl, hn⟩)) trivial (by (repeat first | apply Grow.refl | apply Grow.step | apply Grow.app)) ?_ ?_
                        · kernel_rfl
                        · simp only [List.cons_append, List.nil_append]
                          exact (by first | (simp only [KO, VO, hTset, List.length_set, set_fst hy0]; exact ett) | (rw [hTnew]; exact ett) | (rw [hTfull]; exact ett) | (rw [hTdrop]; exact ett) | (rw [hTdn]; exact ett) | exact ett)
                  · skip
                    refine TAo.eff rfl rfl rfl rfl (Eff.val (fun _ h => by cases h) (Y.load rfl sc21 rfl celD)) ?_
                    rintro _ _ ⟨rfl, rfl⟩
                    refine ⟨Or.inr (by repeat first | exact holds_nil | refine holds_cons inn ?_), ?_⟩
                    refine TA.as (.int .i32 num.n) (by rfl) ?_
                    refine TA.any (rs := [4, 5, 8]) (by kernel_rfl) (by simp) ?_
                    simp only [List.forall_mem_cons, List.not_mem_nil, false_implies, implies_true, and_true]
                    refine ⟨?_, ?_, ?_⟩
                    · skip
                      refine TAo.eff rfl rfl rfl rfl (X.appendS rfl el42 rfl pul rfl (by first | exact Src.owns Try.underlying42 inn | exact Src.rds Try.underlying42 inn | exact Src.reads (by assumption) Try.underlying42 inn) (by simp only [maxLen]; omega) (by omega)) ?_
                      rintro _ _ ⟨a115, c115, rfl, rfl⟩
                      rw [show Dat.cs (l.map Prod.fst) ++ [vS key] = Dat.cs ((l ++ [(key, num)]).map Prod.fst) by rw [List.map_append, Dat.cs_app]; rfl, show l.length + 1 = (l ++ [(key, num)]).length by simp]
                      refine ⟨(Or.inr (by repeat first | exact holds_nil | refine holds_cons inn ?_)), ?_⟩
                      refine TA.any (rs := [5, 8]) (by kernel_rfl) (by simp) ?_
                      simp only [List.forall_mem_cons, List.not_mem_nil, false_implies, implies_true, and_true]
                      refine ⟨?_, ?_⟩
                      · skip
                        refine TAo.eff rfl rfl rfl rfl (Eff.val (fun _ h => by cases h) (Y.load rfl sc29 rfl celD)) ?_
                        rintro _ _ ⟨rfl, rfl⟩
                        refine ⟨Or.inr (by repeat first | exact holds_nil | refine holds_cons inn ?_), ?_⟩
                        refine TA.as (.slice va l.length vc) (by rfl) ?_
                        refine TA.one 8 (by kernel_rfl) rfl rfl rfl rfl (X.lit rfl el29 rfl rfl rfl (by decide) rfl) ?_
                        rintro _ _ ⟨g119, rfl, rfl⟩
                        refine ⟨(Or.inr (by repeat first | exact holds_nil | refine holds_cons inn ?_)), ?_⟩
                        refine TA.one 9 (by kernel_rfl) rfl rfl rfl rfl (X.appendS rfl el29 rfl pul rfl (by first | exact Src.owns Try.underlying29 inn | exact Src.rds Try.underlying29 inn | exact Src.reads (by assumption) Try.underlying29 inn) (by simp only [maxLen]; omega) (by omega)) ?_
                        rintro _ _ ⟨a120, c120, rfl, rfl⟩
                        rw [show Dat.cs (l.map Prod.snd) ++ [Value.int .i32 num.n] = Dat.cs ((l ++ [(key, num)]).map Prod.snd) by rw [List.map_append, Dat.cs_app]; rfl, show l.length + 1 = (l ++ [(key, num)]).length by simp]
                        refine ⟨(Or.inr (by repeat first | exact holds_nil | refine holds_cons inn ?_)), ?_⟩
                        refine TA.one0 10 (by kernel_rfl) rfl rfl rfl (by first | exact X.store rfl sz42 rfl rfl rfl pul lnn (by first | exact setM | rfl) | exact X.storeOwn rfl sz42 rfl (Nat.zero_add _).symm rfl rfl pul lnn (by first | exact setML | rfl) | exact X.storeOwn rfl sz42 rfl rfl rfl rfl pul lnn (by first | exact setML | rfl)) ?_
                        rintro _ _ rfl
                        refine ⟨(Or.inl (by kernel_rfl)), ?_⟩
                        refine TA.one0 11 (by kernel_rfl) rfl rfl rfl (by first | exact X.store rfl sz29 rfl rfl rfl pul lnn (by first | exact setM | rfl) | exact X.storeOwn rfl sz29 rfl (Nat.zero_add _).symm rfl rfl pul lnn (by first | exact setML | rfl) | exact X.storeOwn rfl sz29 rfl rfl rfl rfl pul lnn (by first | exact setML | rfl)) ?_
                        rintro _ _ rfl
                        refine ⟨(Or.inl (by kernel_rfl)), ?_⟩
                        refine TA.done (by kernel_rfl) ?_
                        refine TQ.block_normal ?_
                        refine TQ.meetF ((by first | exact (l ++ [(key, num)], (a115, c115), (a120, c120)) | exact (l.eraseIdx j0, (a141, c141), (a151, c151)) | (have := hTset; exact (l.set j0 (key, num), (ka, kc), (some ⟨gv, offv, none⟩, vc))) | exact (l, (ka, kc), (some ⟨gv, offv, none⟩, vc)) | exact (l, (ka, kc), (va, vc)))) ((by first | (have h := tput_len (q := key) (x := num) hl; have h2 := nodup_put (M := M) (q := key) (x := num) hn; rw [hTset] at h h2; exact ⟨h, h2⟩) | (have h := tput_len (q := key) (x := num) hl; have h2 := nodup_put (M := M) (q := key) (x := num) hn; rw [hTnew] at h h2; exact ⟨h, h2⟩) | (have h := tdrop_le' (q := key) hl; have h2 := nodup_drop (q := key) hn; rw [hTdrop] at h h2; exact ⟨h, h2⟩) | exact ⟨hl, hn⟩)) trivial (by (repeat first | apply Grow.refl | apply Grow.step | apply Grow.app)) ?_ ?_
                        · kernel_rfl
                        · simp only [List.cons_append, List.nil_append]
                          exact (by first | (simp only [KO, VO, hTset, List.length_set, set_fst hy0]; exact ett) | (rw [hTnew]; exact ett) | (rw [hTfull]; exact ett) | (rw [hTdrop]; exact ett) | (rw [hTdn]; exact ett) | exact ett)
                      · skip
                        refine TAo.eff rfl rfl rfl rfl (X.lit rfl el29 rfl rfl rfl (by decide) rfl) ?_
                        rintro _ _ ⟨g119, rfl, rfl⟩
                        refine ⟨(Or.inr (by repeat first | exact holds_nil | refine holds_cons inn ?_)), ?_⟩
                        refine TA.one 5 (by kernel_rfl) rfl rfl rfl rfl (Eff.val (fun _ h => by cases h) (Y.load rfl sc29 rfl celD)) ?_
                        rintro _ _ ⟨rfl, rfl⟩
                        refine ⟨Or.inr (by repeat first | exact holds_nil | refine holds_cons inn ?_), ?_⟩
                        refine TA.as (.slice va l.length vc) (by rfl) ?_
                        refine TA.one 9 (by kernel_rfl) rfl rfl rfl rfl (X.appendS rfl el29 rfl pul rfl (by first | exact Src.owns Try.underlying29 inn | exact Src.rds Try.underlying29 inn | exact Src.reads (by assumption) Try.underlying29 inn) (by simp only [maxLen]; omega) (by omega)) ?_
                        rintro _ _ ⟨a120, c120, rfl, rfl⟩
                        rw [show Dat.cs (l.map Prod.snd) ++ [Value.int .i32 num.n] = Dat.cs ((l ++ [(key, num)]).map Prod.snd) by rw [List.map_append, Dat.cs_app]; rfl, show l.length + 1 = (l ++ [(key, num)]).length by simp]
                        refine ⟨(Or.inr (by repeat first | exact holds_nil | refine holds_cons inn ?_)), ?_⟩
                        refine TA.one0 10 (by kernel_rfl) rfl rfl rfl (by first | exact X.store rfl sz42 rfl rfl rfl pul lnn (by first | exact setM | rfl) | exact X.storeOwn rfl sz42 rfl (Nat.zero_add _).symm rfl rfl pul lnn (by first | exact setML | rfl) | exact X.storeOwn rfl sz42 rfl rfl rfl rfl pul lnn (by first | exact setML | rfl)) ?_
                        rintro _ _ rfl
                        refine ⟨(Or.inl (by kernel_rfl)), ?_⟩
                        refine TA.one0 11 (by kernel_rfl) rfl rfl rfl (by first | exact X.store rfl sz29 rfl rfl rfl pul lnn (by first | exact setM | rfl) | exact X.storeOwn rfl sz29 rfl (Nat.zero_add _).symm rfl rfl pul lnn (by first | exact setML | rfl) | exact X.storeOwn rfl sz29 rfl rfl rfl rfl pul lnn (by first | exact setML | rfl)) ?_
                        rintro _ _ rfl
                        refine ⟨(Or.inl (by kernel_rfl)), ?_⟩
                        refine TA.done (by kernel_rfl) ?_
                        refine TQ.block_normal ?_
                        refine TQ.meetF ((by first | exact (l ++ [(key, num)], (a115, c115), (a120, c120)) | exact (l.eraseIdx j0, (a141, c141), (a151, c151)) | (have := hTset; exact (l.set j0 (key, num), (ka, kc), (some ⟨gv, offv, none⟩, vc))) | exact (l, (ka, kc), (some ⟨gv, offv, none⟩, vc)) | exact (l, (ka, kc), (va, vc)))) ((by first | (have h := tput_len (q := key) (x := num) hl; have h2 := nodup_put (M := M) (q := key) (x := num) hn; rw [hTset] at h h2; exact ⟨h, h2⟩) | (have h := tput_len (q := key) (x := num) hl; have h2 := nodup_put (M := M) (q := key) (x := num) hn; rw [hTnew] at h h2; exact ⟨h, h2⟩) | (have h := tdrop_le' (q := key) hl; have h2 := nodup_drop (q := key) hn; rw [hTdrop] at h h2; exact ⟨h, h2⟩) | exact ⟨hl, hn⟩)) trivial (by (repeat first | apply Grow.refl | apply Grow.step | apply Grow.app)) ?_ ?_
                        · kernel_rfl
                        · simp only [List.cons_append, List.nil_append]
                          exact (by first | (simp only [KO, VO, hTset, List.length_set, set_fst hy0]; exact ett) | (rw [hTnew]; exact ett) | (rw [hTfull]; exact ett) | (rw [hTdrop]; exact ett) | (rw [hTdn]; exact ett) | exact ett)
                    · skip
                      refine TAo.eff rfl rfl rfl rfl (Eff.val (fun _ h => by cases h) (Y.load rfl sc29 rfl celD)) ?_
                      rintro _ _ ⟨rfl, rfl⟩
                      refine ⟨Or.inr (by repeat first | exact holds_nil | refine holds_cons inn ?_), ?_⟩
                      refine TA.as (.slice va l.length vc) (by rfl) ?_
                      refine TA.any (rs := [4, 8]) (by kernel_rfl) (by simp) ?_
                      simp only [List.forall_mem_cons, List.not_mem_nil, false_implies, implies_true, and_true]
                      refine ⟨?_, ?_⟩
                      · skip
                        refine TAo.eff rfl rfl rfl rfl (X.appendS rfl el42 rfl pul rfl (by first | exact Src.owns Try.underlying42 inn | exact Src.rds Try.underlying42 inn | exact Src.reads (by assumption) Try.underlying42 inn) (by simp only [maxLen]; omega) (by omega)) ?_
                        rintro _ _ ⟨a115, c115, rfl, rfl⟩
                        rw [show Dat.cs (l.map Prod.fst) ++ [vS key] = Dat.cs ((l ++ [(key, num)]).map Prod.fst) by rw [List.map_append, Dat.cs_app]; rfl, show l.length + 1 = (l ++ [(key, num)]).length by simp]
                        refine ⟨(Or.inr (by repeat first | exact holds_nil | refine holds_cons inn ?_)), ?_⟩
                        refine TA.one 8 (by kernel_rfl) rfl rfl rfl rfl (X.lit rfl el29 rfl rfl rfl (by decide) rfl) ?_
                        rintro _ _ ⟨g119, rfl, rfl⟩
                        refine ⟨(Or.inr (by repeat first | exact holds_nil | refine holds_cons inn ?_)), ?_⟩
                        refine TA.one 9 (by kernel_rfl) rfl rfl rfl rfl (X.appendS rfl el29 rfl pul rfl (by first | exact Src.owns Try.underlying29 inn | exact Src.rds Try.underlying29 inn | exact Src.reads (by assumption) Try.underlying29 inn) (by simp only [maxLen]; omega) (by omega)) ?_
                        rintro _ _ ⟨a120, c120, rfl, rfl⟩
                        rw [show Dat.cs (l.map Prod.snd) ++ [Value.int .i32 num.n] = Dat.cs ((l ++ [(key, num)]).map Prod.snd) by rw [List.map_append, Dat.cs_app]; rfl, show l.length + 1 = (l ++ [(key, num)]).length by simp]
                        refine ⟨(Or.inr (by repeat first | exact holds_nil | refine holds_cons inn ?_)), ?_⟩
                        refine TA.one0 10 (by kernel_rfl) rfl rfl rfl (by first | exact X.store rfl sz42 rfl rfl rfl pul lnn (by first | exact setM | rfl) | exact X.storeOwn rfl sz42 rfl (Nat.zero_add _).symm rfl rfl pul lnn (by first | exact setML | rfl) | exact X.storeOwn rfl sz42 rfl rfl rfl rfl pul lnn (by first | exact setML | rfl)) ?_
                        rintro _ _ rfl
                        refine ⟨(Or.inl (by kernel_rfl)), ?_⟩
                        refine TA.one0 11 (by kernel_rfl) rfl rfl rfl (by first | exact X.store rfl sz29 rfl rfl rfl pul lnn (by first | exact setM | rfl) | exact X.storeOwn rfl sz29 rfl (Nat.zero_add _).symm rfl rfl pul lnn (by first | exact setML | rfl) | exact X.storeOwn rfl sz29 rfl rfl rfl rfl pul lnn (by first | exact setML | rfl)) ?_
                        rintro _ _ rfl
                        refine ⟨(Or.inl (by kernel_rfl)), ?_⟩
                        refine TA.done (by kernel_rfl) ?_
                        refine TQ.block_normal ?_
                        refine TQ.meetF ((by first | exact (l ++ [(key, num)], (a115, c115), (a120, c120)) | exact (l.eraseIdx j0, (a141, c141), (a151, c151)) | (have := hTset; exact (l.set j0 (key, num), (ka, kc), (some ⟨gv, offv, none⟩, vc))) | exact (l, (ka, kc), (some ⟨gv, offv, none⟩, vc)) | exact (l, (ka, kc), (va, vc)))) ((by first | (have h := tput_len (q := key) (x := num) hl; have h2 := nodup_put (M := M) (q := key) (x := num) hn; rw [hTset] at h h2; exact ⟨h, h2⟩) | (have h := tput_len (q := key) (x := num) hl; have h2 := nodup_put (M := M) (q := key) (x := num) hn; rw [hTnew] at h h2; exact ⟨h, h2⟩) | (have h := tdrop_le' (q := key) hl; have h2 := nodup_drop (q := key) hn; rw [hTdrop] at h h2; exact ⟨h, h2⟩) | exact ⟨hl, hn⟩)) trivial (by (repeat first | apply Grow.refl | apply Grow.step | apply Grow.app)) ?_ ?_
                        · kernel_rfl
                        · simp only [List.cons_append, List.nil_append]
                          exact (by first | (simp only [KO, VO, hTset, List.length_set, set_fst hy0]; exact ett) | (rw [hTnew]; exact ett) | (rw [hTfull]; exact ett) | (rw [hTdrop]; exact ett) | (rw [hTdn]; exact ett) | exact ett)
                      · skip
                        refine TAo.eff rfl rfl rfl rfl (X.lit rfl el29 rfl rfl rfl (by decide) rfl) ?_
                        rintro _ _ ⟨g119, rfl, rfl⟩
                        refine ⟨(Or.inr (by repeat first | exact holds_nil | refine holds_cons inn ?_)), ?_⟩
                        refine TA.one 4 (by kernel_rfl) rfl rfl rfl rfl (X.appendS rfl el42 rfl pul rfl (by first | exact Src.owns Try.underlying42 inn | exact Src.rds Try.underlying42 inn | exact Src.reads (by assumption) Try.underlying42 inn) (by simp only [maxLen]; omega) (by omega)) ?_
                        rintro _ _ ⟨a115, c115, rfl, rfl⟩
                        rw [show Dat.cs (l.map Prod.fst) ++ [vS key] = Dat.cs ((l ++ [(key, num)]).map Prod.fst) by rw [List.map_append, Dat.cs_app]; rfl, show l.length + 1 = (l ++ [(key, num)]).length by simp]
                        refine ⟨(Or.inr (by repeat first | exact holds_nil | refine holds_cons inn ?_)), ?_⟩
                        refine TA.one 9 (by kernel_rfl) rfl rfl rfl rfl (X.appendS rfl el29 rfl pul rfl (by first | exact Src.owns Try.underlying29 inn | exact Src.rds Try.underlying29 inn | exact Src.reads (by assumption) Try.underlying29 inn) (by simp only [maxLen]; omega) (by omega)) ?_
                        rintro _ _ ⟨a120, c120, rfl, rfl⟩
                        rw [show Dat.cs (l.map Prod.snd) ++ [Value.int .i32 num.n] = Dat.cs ((l ++ [(key, num)]).map Prod.snd) by rw [List.map_append, Dat.cs_app]; rfl, show l.length + 1 = (l ++ [(key, num)]).length by simp]
                        refine ⟨(Or.inr (by repeat first | exact holds_nil | refine holds_cons inn ?_)), ?_⟩
                        refine TA.one0 10 (by kernel_rfl) rfl rfl rfl (by first | exact X.store rfl sz42 rfl rfl rfl pul lnn (by first | exact setM | rfl) | exact X.storeOwn rfl sz42 rfl (Nat.zero_add _).symm rfl rfl pul lnn (by first | exact setML | rfl) | exact X.storeOwn rfl sz42 rfl rfl rfl rfl pul lnn (by first | exact setML | rfl)) ?_
                        rintro _ _ rfl
                        refine ⟨(Or.inl (by kernel_rfl)), ?_⟩
                        refine TA.one0 11 (by kernel_rfl) rfl rfl rfl (by first | exact X.store rfl sz29 rfl rfl rfl pul lnn (by first | exact setM | rfl) | exact X.storeOwn rfl sz29 rfl (Nat.zero_add _).symm rfl rfl pul lnn (by first | exact setML | rfl) | exact X.storeOwn rfl sz29 rfl rfl rfl rfl pul lnn (by first | exact setML | rfl)) ?_
                        rintro _ _ rfl
                        refine ⟨(Or.inl (by kernel_rfl)), ?_⟩
                        refine TA.done (by kernel_rfl) ?_
                        refine TQ.block_normal ?_
                        refine TQ.meetF ((by first | exact (l ++ [(key, num)], (a115, c115), (a120, c120)) | exact (l.eraseIdx j0, (a141, c141), (a151, c151)) | (have := hTset; exact (l.set j0 (key, num), (ka, kc), (some ⟨gv, offv, none⟩, vc))) | exact (l, (ka, kc), (some ⟨gv, offv, none⟩, vc)) | exact (l, (ka, kc), (va, vc)))) ((by first | (have h := tput_len (q := key) (x := num) hl; have h2 := nodup_put (M := M) (q := key) (x := num) hn; rw [hTset] at h h2; exact ⟨h, h2⟩) | (have h := tput_len (q := key) (x := num) hl; have h2 := nodup_put (M := M) (q := key) (x := num) hn; rw [hTnew] at h h2; exact ⟨h, h2⟩) | (have h := tdrop_le' (q := key) hl; have h2 := nodup_drop (q := key) hn; rw [hTdrop] at h h2; exact ⟨h, h2⟩) | exact ⟨hl, hn⟩)) trivial (by (repeat first | apply Grow.refl | apply Grow.step | apply Grow.app)) ?_ ?_
                        · kernel_rfl
                        · simp only [List.cons_append, List.nil_append]
                          exact (by first | (simp only [KO, VO, hTset, List.length_set, set_fst hy0]; exact ett) | (rw [hTnew]; exact ett) | (rw [hTfull]; exact ett) | (rw [hTdrop]; exact ett) | (rw [hTdn]; exact ett) | exact ett)
                    · skip
                      refine TAo.eff rfl rfl rfl rfl (X.lit rfl el29 rfl rfl rfl (by decide) rfl) ?_
                      rintro _ _ ⟨g119, rfl, rfl⟩
                      refine ⟨(Or.inr (by repeat first | exact holds_nil | refine holds_cons inn ?_)), ?_⟩
                      refine TA.any (rs := [4, 5]) (by kernel_rfl) (by simp) ?_
                      simp only [List.forall_mem_cons, List.not_mem_nil, false_implies, implies_true, and_true]
                      refine ⟨?_, ?_⟩
                      · skip
                        refine TAo.eff rfl rfl rfl rfl (X.appendS rfl el42 rfl pul rfl (by first | exact Src.owns Try.underlying42 inn | exact Src.rds Try.underlying42 inn | exact Src.reads (by assumption) Try.underlying42 inn) (by simp only [maxLen]; omega) (by omega)) ?_
                        rintro _ _ ⟨a115, c115, rfl, rfl⟩
                        rw [show Dat.cs (l.map Prod.fst) ++ [vS key] = Dat.cs ((l ++ [(key, num)]).map Prod.fst) by rw [List.map_append, Dat.cs_app]; rfl, show l.length + 1 = (l ++ [(key, num)]).length by simp]
                        refine ⟨(Or.inr (by repeat first | exact holds_nil | refine holds_cons inn ?_)), ?_⟩
                        refine TA.one 5 (by kernel_rfl) rfl rfl rfl rfl (Eff.val (fun _ h => by cases h) (Y.load rfl sc29 rfl celD)) ?_
                        rintro _ _ ⟨rfl, rfl⟩
                        refine ⟨Or.inr (by repeat first | exact holds_nil | refine holds_cons inn ?_), ?_⟩
                        refine TA.as (.slice va l.length vc) (by rfl) ?_
                        refine TA.one 9 (by kernel_rfl) rfl rfl rfl rfl (X.appendS rfl el29 rfl pul rfl (by first | exact Src.owns Try.underlying29 inn | exact Src.rds Try.underlying29 inn | exact Src.reads (by assumption) Try.underlying29 inn) (by simp only [maxLen]; omega) (by omega)) ?_
                        rintro _ _ ⟨a120, c120, rfl, rfl⟩
                        rw [show Dat.cs (l.map Prod.snd) ++ [Value.int .i32 num.n] = Dat.cs ((l ++ [(key, num)]).map Prod.snd) by rw [List.map_append, Dat.cs_app]; rfl, show l.length + 1 = (l ++ [(key, num)]).length by simp]
                        refine ⟨(Or.inr (by repeat first | exact holds_nil | refine holds_cons inn ?_)), ?_⟩
                        refine TA.one0 10 (by kernel_rfl) rfl rfl rfl (by first | exact X.store rfl sz42 rfl rfl rfl pul lnn (by first | exact setM | rfl) | exact X.storeOwn rfl sz42 rfl (Nat.zero_add _).symm rfl rfl pul lnn (by first | exact setML | rfl) | exact X.storeOwn rfl sz42 rfl rfl rfl rfl pul lnn (by first | exact setML | rfl)) ?_
                        rintro _ _ rfl
                        refine ⟨(Or.inl (by kernel_rfl)), ?_⟩
                        refine TA.one0 11 (by kernel_rfl) rfl rfl rfl (by first | exact X.store rfl sz29 rfl rfl rfl pul lnn (by first | exact setM | rfl) | exact X.storeOwn rfl sz29 rfl (Nat.zero_add _).symm rfl rfl pul lnn (by first | exact setML | rfl) | exact X.storeOwn rfl sz29 rfl rfl rfl rfl pul lnn (by first | exact setML | rfl)) ?_
                        rintro _ _ rfl
                        refine ⟨(Or.inl (by kernel_rfl)), ?_⟩
                        refine TA.done (by kernel_rfl) ?_
                        refine TQ.block_normal ?_
                        refine TQ.meetF ((by first | exact (l ++ [(key, num)], (a115, c115), (a120, c120)) | exact (l.eraseIdx j0, (a141, c141), (a151, c151)) | (have := hTset; exact (l.set j0 (key, num), (ka, kc), (some ⟨gv, offv, none⟩, vc))) | exact (l, (ka, kc), (some ⟨gv, offv, none⟩, vc)) | exact (l, (ka, kc), (va, vc)))) ((by first | (have h := tput_len (q := key) (x := num) hl; have h2 := nodup_put (M := M) (q := key) (x := num) hn; rw [hTset] at h h2; exact ⟨h, h2⟩) | (have h := tput_len (q := key) (x := num) hl; have h2 := nodup_put (M := M) (q := key) (x := num) hn; rw [hTnew] at h h2; exact ⟨h, h2⟩) | (have h := tdrop_le' (q := key) hl; have h2 := nodup_drop (q := key) hn; rw [hTdrop] at h h2; exact ⟨h, h2⟩) | exact ⟨hl, hn⟩)) trivial (by (repeat first | apply Grow.refl | apply Grow.step | apply Grow.app)) ?_ ?_
                        · kernel_rfl
                        · simp only [List.cons_append, List.nil_append]
                          exact (by first | (simp only [KO, VO, hTset, List.length_set, set_fst hy0]; exact ett) | (rw [hTnew]; exact ett) | (rw [hTfull]; exact ett) | (rw [hTdrop]; exact ett) | (rw [hTdn]; exact ett) | exact ett)
                      · skip
                        refine TAo.eff rfl rfl rfl rfl (Eff.val (fun _ h => by cases h) (Y.load rfl sc29 rfl celD)) ?_
                        rintro _ _ ⟨rfl, rfl⟩
                        refine ⟨Or.inr (by repeat first | exact holds_nil | refine holds_cons inn ?_), ?_⟩
                        refine TA.as (.slice va l.length vc) (by rfl) ?_
                        refine TA.one 4 (by kernel_rfl) rfl rfl rfl rfl (X.appendS rfl el42 rfl pul rfl (by first | exact Src.owns Try.underlying42 inn | exact Src.rds Try.underlying42 inn | exact Src.reads (by assumption) Try.underlying42 inn) (by simp only [maxLen]; omega) (by omega)) ?_
                        rintro _ _ ⟨a115, c115, rfl, rfl⟩
                        rw [show Dat.cs (l.map Prod.fst) ++ [vS key] = Dat.cs ((l ++ [(key, num)]).map Prod.fst) by rw [List.map_append, Dat.cs_app]; rfl, show l.length + 1 = (l ++ [(key, num)]).length by simp]
                        refine ⟨(Or.inr (by repeat first | exact holds_nil | refine holds_cons inn ?_)), ?_⟩
                        refine TA.one 9 (by kernel_rfl) rfl rfl rfl rfl (X.appendS rfl el29 rfl pul rfl (by first | exact Src.owns Try.underlying29 inn | exact Src.rds Try.underlying29 inn | exact Src.reads (by assumption) Try.underlying29 inn) (by simp only [maxLen]; omega) (by omega)) ?_
                        rintro _ _ ⟨a120, c120, rfl, rfl⟩
                        rw [show Dat.cs (l.map Prod.snd) ++ [Value.int .i32 num.n] = Dat.cs ((l ++ [(key, num)]).map Prod.snd) by rw [List.map_append, Dat.cs_app]; rfl, show l.length + 1 = (l ++ [(key, num)]).length by simp]
                        refine ⟨(Or.inr (by repeat first | exact holds_nil | refine holds_cons inn ?_)), ?_⟩
                        refine TA.one0 10 (by kernel_rfl) rfl rfl rfl (by first | exact X.store rfl sz42 rfl rfl rfl pul lnn (by first | exact setM | rfl) | exact X.storeOwn rfl sz42 rfl (Nat.zero_add _).symm rfl rfl pul lnn (by first | exact setML | rfl) | exact X.storeOwn rfl sz42 rfl rfl rfl rfl pul lnn (by first | exact setML | rfl)) ?_
                        rintro _ _ rfl
                        refine ⟨(Or.inl (by kernel_rfl)), ?_⟩
                        refine TA.one0 11 (by kernel_rfl) rfl rfl rfl (by first | exact X.store rfl sz29 rfl rfl rfl pul lnn (by first | exact setM | rfl) | exact X.storeOwn rfl sz29 rfl (Nat.zero_add _).symm rfl rfl pul lnn (by first | exact setML | rfl) | exact X.storeOwn rfl sz29 rfl rfl rfl rfl pul lnn (by first | exact setML | rfl)) ?_
                        rintro _ _ rfl
                        refine ⟨(Or.inl (by kernel_rfl)), ?_⟩
                        refine TA.done (by kernel_rfl) ?_
                        refine TQ.block_normal ?_
                        refine TQ.meetF ((by first | exact (l ++ [(key, num)], (a115, c115), (a120, c120)) | exact (l.eraseIdx j0, (a141, c141), (a151, c151)) | (have := hTset; exact (l.set j0 (key, num), (ka, kc), (some ⟨gv, offv, none⟩, vc))) | exact (l, (ka, kc), (some ⟨gv, offv, none⟩, vc)) | exact (l, (ka, kc), (va, vc)))) ((by first | (have h := tput_len (q := key) (x := num) hl; have h2 := nodup_put (M := M) (q := key) (x := num) hn; rw [hTset] at h h2; exact ⟨h, h2⟩) | (have h := tput_len (q := key) (x := num) hl; have h2 := nodup_put (M := M) (q := key) (x := num) hn; rw [hTnew] at h h2; exact ⟨h, h2⟩) | (have h := tdrop_le' (q := key) hl; have h2 := nodup_drop (q := key) hn; rw [hTdrop] at h h2; exact ⟨h, h2⟩) | exact ⟨hl, hn⟩)) trivial (by (repeat first | apply Grow.refl | apply Grow.step | apply Grow.app)) ?_ ?_
                        · kernel_rfl
                        · simp only [List.cons_append, List.nil_append]
                          exact (by first | (simp only [KO, VO, hTset, List.length_set, set_fst hy0]; exact ett) | (rw [hTnew]; exact ett) | (rw [hTfull]; exact ett) | (rw [hTdrop]; exact ett) | (rw [hTdn]; exact ett) | exact ett)
                · skip
                  refine TAo.eff rfl rfl rfl rfl (Eff.val (fun _ h => by cases h) (Y.load rfl sc29 rfl celD)) ?_
                  rintro _ _ ⟨rfl, rfl⟩
                  refine ⟨Or.inr (by repeat first | exact holds_nil | refine holds_cons inn ?_), ?_⟩
                  refine TA.as (.slice va l.length vc) (by rfl) ?_
                  refine TA.any (rs := [3, 7]) (by kernel_rfl) (by simp) ?_
                  simp only [List.forall_mem_cons, List.not_mem_nil, false_implies, implies_true, and_true]
                  refine ⟨?_, ?_⟩
                  · skip
                    refine TAo.eff rfl rfl rfl rfl (X.lit rfl el42 rfl rfl rfl (by decide) rfl) ?_
                    rintro _ _ ⟨g114, rfl, rfl⟩
                    refine ⟨(Or.inr (by repeat first | exact holds_nil | refine holds_cons inn ?_)), ?_⟩
                    refine TA.any (rs := [4, 7]) (by kernel_rfl) (by simp) ?_
                    simp only [List.forall_mem_cons, List.not_mem_nil, false_implies, implies_true, and_true]
                    refine ⟨?_, ?_⟩
                    · skip
                      refine TAo.eff rfl rfl rfl rfl (X.appendS rfl el42 rfl pul rfl (by first | exact Src.owns Try.underlying42 inn | exact Src.rds Try.underlying42 inn | exact Src.reads (by assumption) Try.underlying42 inn) (by simp only [maxLen]; omega) (by omega)) ?_
                      rintro _ _ ⟨a115, c115, rfl, rfl⟩
                      rw [show Dat.cs (l.map Prod.fst) ++ [vS key] = Dat.cs ((l ++ [(key, num)]).map Prod.fst) by rw [List.map_append, Dat.cs_app]; rfl, show l.length + 1 = (l ++ [(key, num)]).length by simp]
                      refine ⟨(Or.inr (by repeat first | exact holds_nil | refine holds_cons inn ?_)), ?_⟩
                      refine TA.one 7 (by kernel_rfl) rfl rfl rfl rfl (Eff.val (fun _ h => by cases h) (Y.load rfl sc21 rfl celD)) ?_
                      rintro _ _ ⟨rfl, rfl⟩
                      refine ⟨Or.inr (by repeat first | exact holds_nil | refine holds_cons inn ?_), ?_⟩
                      refine TA.as (.int .i32 num.n) (by rfl) ?_
                      refine TA.one 8 (by kernel_rfl) rfl rfl rfl rfl (X.lit rfl el29 rfl rfl rfl (by decide) rfl) ?_
                      rintro _ _ ⟨g119, rfl, rfl⟩
                      refine ⟨(Or.inr (by repeat first | exact holds_nil | refine holds_cons inn ?_)), ?_⟩
                      refine TA.one 9 (by kernel_rfl) rfl rfl rfl rfl (X.appendS rfl el29 rfl pul rfl (by first | exact Src.owns Try.underlying29 inn | exact Src.rds Try.underlying29 inn | exact Src.reads (by assumption) Try.underlying29 inn) (by simp only [maxLen]; omega) (by omega)) ?_
                      rintro _ _ ⟨a120, c120, rfl, rfl⟩
                      rw [show Dat.cs (l.map Prod.snd) ++ [Value.int .i32 num.n] = Dat.cs ((l ++ [(key, num)]).map Prod.snd) by rw [List.map_append, Dat.cs_app]; rfl, show l.length + 1 = (l ++ [(key, num)]).length by simp]
                      refine ⟨(Or.inr (by repeat first | exact holds_nil | refine holds_cons inn ?_)), ?_⟩
                      refine TA.one0 10 (by kernel_rfl) rfl rfl rfl (by first | exact X.store rfl sz42 rfl rfl rfl pul lnn (by first | exact setM | rfl) | exact X.storeOwn rfl sz42 rfl (Nat.zero_add _).symm rfl rfl pul lnn (by first | exact setML | rfl) | exact X.storeOwn rfl sz42 rfl rfl rfl rfl pul lnn (by first | exact setML | rfl)) ?_
                      rintro _ _ rfl
                      refine ⟨(Or.inl (by kernel_rfl)), ?_⟩
                      refine TA.one0 11 (by kernel_rfl) rfl rfl rfl (by first | exact X.store rfl sz29 rfl rfl rfl pul lnn (by first | exact setM | rfl) | exact X.storeOwn rfl sz29 rfl (Nat.zero_add _).symm rfl rfl pul lnn (by first | exact setML | rfl) | exact X.storeOwn rfl sz29 rfl rfl rfl rfl pul lnn (by first | exact setML | rfl)) ?_
                      rintro _ _ rfl
                      refine ⟨(Or.inl (by kernel_rfl)), ?_⟩
                      refine TA.done (by kernel_rfl) ?_
                      refine TQ.block_normal ?_
                      refine TQ.meetF ((by first | exact (l ++ [(key, num)], (a115, c115), (a120, c120)) | exact (l.eraseIdx j0, (a141, c141), (a151, c151)) | (have := hTset; exact (l.set j0 (key, num), (ka, kc), (some ⟨gv, offv, none⟩, vc))) | exact (l, (ka, kc), (some ⟨gv, offv, none⟩, vc)) | exact (l, (ka, kc), (va, vc)))) ((by first | (have h := tput_len (q := key) (x := num) hl; have h2 := nodup_put (M := M) (q := key) (x := num) hn; rw [hTset] at h h2; exact ⟨h, h2⟩) | (have h := tput_len (q := key) (x := num) hl; have h2 := nodup_put (M := M) (q := key) (x := num) hn; rw [hTnew] at h h2; exact ⟨h, h2⟩) | (have h := tdrop_le' (q := key) hl; have h2 := nodup_drop (q := key) hn; rw [hTdrop] at h h2; exact ⟨h, h2⟩) | exact ⟨hl, hn⟩)) trivial (by (repeat first | apply Grow.refl | apply Grow.step | apply Grow.app)) ?_ ?_
                      · kernel_rfl
                      · simp only [List.cons_append, List.nil_append]
                        exact (by first | (simp only [KO, VO, hTset, List.length_set, set_fst hy0]; exact ett) | (rw [hTnew]; exact ett) | (rw [hTfull]; exact ett) | (rw [hTdrop]; exact ett) | (rw [hTdn]; exact ett) | exact ett)
                    · skip
                      refine TAo.eff rfl rfl rfl rfl (Eff.val (fun _ h => by cases h) (Y.load rfl sc21 rfl celD)) ?_
                      rintro _ _ ⟨rfl, rfl⟩
                      refine ⟨Or.inr (by repeat first | exact holds_nil | refine holds_cons inn ?_), ?_⟩
                      refine TA.as (.int .i32 num.n) (by rfl) ?_
                      refine TA.any (rs := [4, 8]) (by kernel_rfl) (by simp) ?_
                      simp only [List.forall_mem_cons, List.not_mem_nil, false_implies, implies_true, and_true]
                      refine ⟨?_, ?_⟩
                      · skip
                        refine TAo.eff rfl rfl rfl rfl (X.appendS rfl el42 rfl pul rfl (by first | exact Src.owns Try.underlying42 inn | exact Src.rds Try.underlying42 inn | exact Src.reads (by assumption) Try.underlying42 inn) (by simp only [maxLen]; omega) (by omega)) ?_
                        rintro _ _ ⟨a115, c115, rfl, rfl⟩
                        rw [show Dat.cs (l.map Prod.fst) ++ [vS key] = Dat.cs ((l ++ [(key, num)]).map Prod.fst) by rw [List.map_append, Dat.cs_app]; rfl, show l.length + 1 = (l ++ [(key, num)]).length by simp]
                        refine ⟨(Or.inr (by repeat first | exact holds_nil | refine holds_cons inn ?_)), ?_⟩
                        refine TA.one 8 (by kernel_rfl) rfl rfl rfl rfl (X.lit rfl el29 rfl rfl rfl (by decide) rfl) ?_
                        rintro _ _ ⟨g119, rfl, rfl⟩
                        refine ⟨(Or.inr (by repeat first | exact holds_nil | refine holds_cons inn ?_)), ?_⟩
                        refine TA.one 9 (by kernel_rfl) rfl rfl rfl rfl (X.appendS rfl el29 rfl pul rfl (by first | exact Src.owns Try.underlying29 inn | exact Src.rds Try.underlying29 inn | exact Src.reads (by assumption) Try.underlying29 inn) (by simp only [maxLen]; omega) (by omega)) ?_
                        rintro _ _ ⟨a120, c120, rfl, rfl⟩
                        rw [show Dat.cs (l.map Prod.snd) ++ [Value.int .i32 num.n] = Dat.cs ((l ++ [(key, num)]).map Prod.snd) by rw [List.map_append, Dat.cs_app]; rfl, show l.length + 1 = (l ++ [(key, num)]).length by simp]
                        refine ⟨(Or.inr (by repeat first | exact holds_nil | refine holds_cons inn ?_)), ?_⟩
                        refine TA.one0 10 (by kernel_rfl) rfl rfl rfl (by first | exact X.store rfl sz42 rfl rfl rfl pul lnn (by first | exact setM | rfl) | exact X.storeOwn rfl sz42 rfl (Nat.zero_add _).symm rfl rfl pul lnn (by first | exact setML | rfl) | exact X.storeOwn rfl sz42 rfl rfl rfl rfl pul lnn (by first | exact setML | rfl)) ?_
                        rintro _ _ rfl
                        refine ⟨(Or.inl (by kernel_rfl)), ?_⟩
                        refine TA.one0 11 (by kernel_rfl) rfl rfl rfl (by first | exact X.store rfl sz29 rfl rfl rfl pul lnn (by first | exact setM | rfl) | exact X.storeOwn rfl sz29 rfl (Nat.zero_add _).symm rfl rfl pul lnn (by first | exact setML | rfl) | exact X.storeOwn rfl sz29 rfl rfl rfl rfl pul lnn (by first | exact setML | rfl)) ?_
                        rintro _ _ rfl
                        refine ⟨(Or.inl (by kernel_rfl)), ?_⟩
                        refine TA.done (by kernel_rfl) ?_
                        refine TQ.block_normal ?_
                        refine TQ.meetF ((by first | exact (l ++ [(key, num)], (a115, c115), (a120, c120)) | exact (l.eraseIdx j0, (a141, c141), (a151, c151)) | (have := hTset; exact (l.set j0 (key, num), (ka, kc), (some ⟨gv, offv, none⟩, vc))) | exact (l, (ka, kc), (some ⟨gv, offv, none⟩, vc)) | exact (l, (ka, kc), (va, vc)))) ((by first | (have h := tput_len (q := key) (x := num) hl; have h2 := nodup_put (M := M) (q := key) (x := num) hn; rw [hTset] at h h2; exact ⟨h, h2⟩) | (have h := tput_len (q := key) (x := num) hl; have h2 := nodup_put (M := M) (q := key) (x := num) hn; rw [hTnew] at h h2; exact ⟨h, h2⟩) | (have h := tdrop_le' (q := key) hl; have h2 := nodup_drop (q := key) hn; rw [hTdrop] at h h2; exact ⟨h, h2⟩) | exact ⟨hl, hn⟩)) trivial (by (repeat first | apply Grow.refl | apply Grow.step | apply Grow.app)) ?_ ?_
                        · kernel_rfl
                        · simp only [List.cons_append, List.nil_append]
                          exact (by first | (simp only [KO, VO, hTset, List.length_set, set_fst hy0]; exact ett) | (rw [hTnew]; exact ett) | (rw [hTfull]; exact ett) | (rw [hTdrop]; exact ett) | (rw [hTdn]; exact ett) | exact ett)
                      · skip
                        refine TAo.eff rfl rfl rfl rfl (X.lit rfl el29 rfl rfl rfl (by decide) rfl) ?_
                        rintro _ _ ⟨g119, rfl, rfl⟩
                        refine ⟨(Or.inr (by repeat first | exact holds_nil | refine holds_cons inn ?_)), ?_⟩
                        refine TA.one 4 (by kernel_rfl) rfl rfl rfl rfl (X.appendS rfl el42 rfl pul rfl (by first | exact Src.owns Try.underlying42 inn | exact Src.rds Try.underlying42 inn | exact Src.reads (by assumption) Try.underlying42 inn) (by simp only [maxLen]; omega) (by omega)) ?_
                        rintro _ _ ⟨a115, c115, rfl, rfl⟩
                        rw [show Dat.cs (l.map Prod.fst) ++ [vS key] = Dat.cs ((l ++ [(key, num)]).map Prod.fst) by rw [List.map_append, Dat.cs_app]; rfl, show l.length + 1 = (l ++ [(key, num)]).length by simp]
                        refine ⟨(Or.inr (by repeat first | exact holds_nil | refine holds_cons inn ?_)), ?_⟩
                        refine TA.one 9 (by kernel_rfl) rfl rfl rfl rfl (X.appendS rfl el29 rfl pul rfl (by first | exact Src.owns Try.underlying29 inn | exact Src.rds Try.underlying29 inn | exact Src.reads (by assumption) Try.underlying29 inn) (by simp only [maxLen]; omega) (by omega)) ?_
                        rintro _ _ ⟨a120, c120, rfl, rfl⟩
                        rw [show Dat.cs (l.map Prod.snd) ++ [Value.int .i32 num.n] = Dat.cs ((l ++ [(key, num)]).map Prod.snd) by rw [List.map_append, Dat.cs_app]; rfl, show l.length + 1 = (l ++ [(key, num)]).length by simp]
                        refine ⟨(Or.inr (by repeat first | exact holds_nil | refine holds_cons inn ?_)), ?_⟩
                        refine TA.one0 10 (by kernel_rfl) rfl rfl rfl (by first | exact X.store rfl sz42 rfl rfl rfl pul lnn (by first | exact setM | rfl) | exact X.storeOwn rfl sz42 rfl (Nat.zero_add _).symm rfl rfl pul lnn (by first | exact setML | rfl) | exact X.storeOwn rfl sz42 rfl rfl rfl rfl pul lnn (by first | exact setML | rfl)) ?_
                        rintro _ _ rfl
                        refine ⟨(Or.inl (by kernel_rfl)), ?_⟩
                        refine TA.one0 11 (by kernel_rfl) rfl rfl rfl (by first | exact X.store rfl sz29 rfl rfl rfl pul lnn (by first | exact setM | rfl) | exact X.storeOwn rfl sz29 rfl (Nat.zero_add _).symm rfl rfl pul lnn (by first | exact setML | rfl) | exact X.storeOwn rfl sz29 rfl rfl rfl rfl pul lnn (by first | exact setML | rfl)) ?_
                        rintro _ _ rfl
                        refine ⟨(Or.inl (by kernel_rfl)), ?_⟩
                        refine TA.done (by kernel_rfl) ?_
                        refine TQ.block_normal ?_
                        refine TQ.meetF ((by first | exact (l ++ [(key, num)], (a115, c115), (a120, c120)) | exact (l.eraseIdx j0, (a141, c141), (a151, c151)) | (have := hTset; exact (l.set j0 (key, num), (ka, kc), (some ⟨gv, offv, none⟩, vc))) | exact (l, (ka, kc), (some ⟨gv, offv, none⟩, vc)) | exact (l, (ka, kc), (va, vc)))) ((by first | (have h := tput_len (q := key) (x := num) hl; have h2 := nodup_put (M := M) (q := key) (x := num) hn; rw [hTset] at h h2; exact ⟨h, h2⟩) | (have h := tput_len (q := key) (x := num) hl; have h2 := nodup_put (M := M) (q := key) (x := num) hn; rw [hTnew] at h h2; exact ⟨h, h2⟩) | (have h := tdrop_le' (q := key) hl; have h2 := nodup_drop (q := key) hn; rw [hTdrop] at h h2; exact ⟨h, h2⟩) | exact ⟨hl, hn⟩)) trivial (by (repeat first | apply Grow.refl | apply Grow.step | apply Grow.app)) ?_ ?_
                        · kernel_rfl
                        · simp only [List.cons_append, List.nil_append]
                          exact (by first | (simp only [KO, VO, hTset, List.length_set, set_fst hy0]; exact ett) | (rw [hTnew]; exact ett) | (rw [hTfull]; exact ett) | (rw [hTdrop]; exact ett) | (rw [hTdn]; exact ett) | exact ett)
                  · skip
                    refine TAo.eff rfl rfl rfl rfl (Eff.val (fun _ h => by cases h) (Y.load rfl sc21 rfl celD)) ?_
                    rintro _ _ ⟨rfl, rfl⟩
                    refine ⟨Or.inr (by repeat first | exact holds_nil | refine holds_cons inn ?_), ?_⟩
                    refine TA.as (.int .i32 num.n) (by rfl) ?_
                    refine TA.any (rs := [3, 8]) (by kernel_rfl) (by simp) ?_
                    simp only [List.forall_mem_cons, List.not_mem_nil, false_implies, implies_true, and_true]
                    refine ⟨?_, ?_⟩
                    · skip
                      refine TAo.eff rfl rfl rfl rfl (X.lit rfl el42 rfl rfl rfl (by decide) rfl) ?_
                      rintro _ _ ⟨g114, rfl, rfl⟩
                      refine ⟨(Or.inr (by repeat first | exact holds_nil | refine holds_cons inn ?_)), ?_⟩
                      refine TA.any (rs := [4, 8]) (by kernel_rfl) (by simp) ?_
                      simp only [List.forall_mem_cons, List.not_mem_nil, false_implies, implies_true, and_true]
                      refine ⟨?_, ?_⟩
                      · skip
                        refine TAo.eff rfl rfl rfl rfl (X.appendS rfl el42 rfl pul rfl (by first | exact Src.owns Try.underlying42 inn | exact Src.rds Try.underlying42 inn | exact Src.reads (by assumption) Try.underlying42 inn) (by simp only [maxLen]; omega) (by omega)) ?_
                        rintro _ _ ⟨a115, c115, rfl, rfl⟩
                        rw [show Dat.cs (l.map Prod.fst) ++ [vS key] = Dat.cs ((l ++ [(key, num)]).map Prod.fst) by rw [List.map_append, Dat.cs_app]; rfl, show l.length + 1 = (l ++ [(key, num)]).length by simp]
                        refine ⟨(Or.inr (by repeat first | exact holds_nil | refine holds_cons inn ?_)), ?_⟩
                        refine TA.one 8 (by kernel_rfl) rfl rfl rfl rfl (X.lit rfl el29 rfl rfl rfl (by decide) rfl) ?_
                        rintro _ _ ⟨g119, rfl, rfl⟩
                        refine ⟨(Or.inr (by repeat first | exact holds_nil | refine holds_cons inn ?_)), ?_⟩
                        refine TA.one 9 (by kernel_rfl) rfl rfl rfl rfl (X.appendS rfl el29 rfl pul rfl (by first | exact Src.owns Try.underlying29 inn | exact Src.rds Try.underlying29 inn | exact Src.reads (by assumption) Try.underlying29 inn) (by simp only [maxLen]; omega) (by omega)) ?_
                        rintro _ _ ⟨a120, c120, rfl, rfl⟩
                        rw [show Dat.cs (l.map Prod.snd) ++ [Value.int .i32 num.n] = Dat.cs ((l ++ [(key, num)]).map Prod.snd) by rw [List.map_append, Dat.cs_app]; rfl, show l.length + 1 = (l ++ [(key, num)]).length by simp]
                        refine ⟨(Or.inr (by repeat first | exact holds_nil | refine holds_cons inn ?_)), ?_⟩
                        refine TA.one0 10 (by kernel_rfl) rfl rfl rfl (by first | exact X.store rfl sz42 rfl rfl rfl pul lnn (by first | exact setM | rfl) | exact X.storeOwn rfl sz42 rfl (Nat.zero_add _).symm rfl rfl pul lnn (by first | exact setML | rfl) | exact X.storeOwn rfl sz42 rfl rfl rfl rfl pul lnn (by first | exact setML | rfl)) ?_
                        rintro _ _ rfl
                        refine ⟨(Or.inl (by kernel_rfl)), ?_⟩
                        refine TA.one0 11 (by kernel_rfl) rfl rfl rfl (by first | exact X.store rfl sz29 rfl rfl rfl pul lnn (by first | exact setM | rfl) | exact X.storeOwn rfl sz29 rfl (Nat.zero_add _).symm rfl rfl pul lnn (by first | exact setML | rfl) | exact X.storeOwn rfl sz29 rfl rfl rfl rfl pul lnn (by first | exact setML | rfl)) ?_
                        rintro _ _ rfl
                        refine ⟨(Or.inl (by kernel_rfl)), ?_⟩
                        refine TA.done (by kernel_rfl) ?_
                        refine TQ.block_normal ?_
                        refine TQ.meetF ((by first | exact (l ++ [(key, num)], (a115, c115), (a120, c120)) | exact (l.eraseIdx j0, (a141, c141), (a151, c151)) | (have := hTset; exact (l.set j0 (key, num), (ka, kc), (some ⟨gv, offv, none⟩, vc))) | exact (l, (ka, kc), (some ⟨gv, offv, none⟩, vc)) | exact (l, (ka, kc), (va, vc)))) ((by first | (have h := tput_len (q := key) (x := num) hl; have h2 := nodup_put (M := M) (q := key) (x := num) hn; rw [hTset] at h h2; exact ⟨h, h2⟩) | (have h := tput_len (q := key) (x := num) hl; have h2 := nodup_put (M := M) (q := key) (x := num) hn; rw [hTnew] at h h2; exact ⟨h, h2⟩) | (have h := tdrop_le' (q := key) hl; have h2 := nodup_drop (q := key) hn; rw [hTdrop] at h h2; exact ⟨h, h2⟩) | exact ⟨hl, hn⟩)) trivial (by (repeat first | apply Grow.refl | apply Grow.step | apply Grow.app)) ?_ ?_
                        · kernel_rfl
                        · simp only [List.cons_append, List.nil_append]
                          exact (by first | (simp only [KO, VO, hTset, List.length_set, set_fst hy0]; exact ett) | (rw [hTnew]; exact ett) | (rw [hTfull]; exact ett) | (rw [hTdrop]; exact ett) | (rw [hTdn]; exact ett) | exact ett)
                      · skip
                        refine TAo.eff rfl rfl rfl rfl (X.lit rfl el29 rfl rfl rfl (by decide) rfl) ?_
                        rintro _ _ ⟨g119, rfl, rfl⟩
                        refine ⟨(Or.inr (by repeat first | exact holds_nil | refine holds_cons inn ?_)), ?_⟩
                        refine TA.one 4 (by kernel_rfl) rfl rfl rfl rfl (X.appendS rfl el42 rfl pul rfl (by first | exact Src.owns Try.underlying42 inn | exact Src.rds Try.underlying42 inn | exact Src.reads (by assumption) Try.underlying42 inn) (by simp only [maxLen]; omega) (by omega)) ?_
                        rintro _ _ ⟨a115, c115, rfl, rfl⟩
                        rw [show Dat.cs (l.map Prod.fst) ++ [vS key] = Dat.cs ((l ++ [(key, num)]).map Prod.fst) by rw [List.map_append, Dat.cs_app]; rfl, show l.length + 1 = (l ++ [(key, num)]).length by simp]
                        refine ⟨(Or.inr (by repeat first | exact holds_nil | refine holds_cons inn ?_)), ?_⟩
                        refine TA.one 9 (by kernel_rfl) rfl rfl rfl rfl (X.appendS rfl el29 rfl pul rfl (by first | exact Src.owns Try.underlying29 inn | exact Src.rds Try.underlying29 inn | exact Src.reads (by assumption) Try.underlying29 inn) (by simp only [maxLen]; omega) (by omega)) ?_
                        rintro _ _ ⟨a120, c120, rfl, rfl⟩
                        rw [show Dat.cs (l.map Prod.snd) ++ [Value.int .i32 num.n] = Dat.cs ((l ++ [(key, num)]).map Prod.snd) by rw [List.map_append, Dat.cs_app]; rfl, show l.length + 1 = (l ++ [(key, num)]).length by simp]
                        refine ⟨(Or.inr (by repeat first | exact holds_nil | refine holds_cons inn ?_)), ?_⟩
                        refine TA.one0 10 (by kernel_rfl) rfl rfl rfl (by first | exact X.store rfl sz42 rfl rfl rfl pul lnn (by first | exact setM | rfl) | exact X.storeOwn rfl sz42 rfl (Nat.zero_add _).symm rfl rfl pul lnn (by first | exact setML | rfl) | exact X.storeOwn rfl sz42 rfl rfl rfl rfl pul lnn (by first | exact setML | rfl)) ?_
                        rintro _ _ rfl
                        refine ⟨(Or.inl (by kernel_rfl)), ?_⟩
                        refine TA.one0 11 (by kernel_rfl) rfl rfl rfl (by first | exact X.store rfl sz29 rfl rfl rfl pul lnn (by first | exact setM | rfl) | exact X.storeOwn rfl sz29 rfl (Nat.zero_add _).symm rfl rfl pul lnn (by first | exact setML | rfl) | exact X.storeOwn rfl sz29 rfl rfl rfl rfl pul lnn (by first | exact setML | rfl)) ?_
                        rintro _ _ rfl
                        refine ⟨(Or.inl (by kernel_rfl)), ?_⟩
                        refine TA.done (by kernel_rfl) ?_
                        refine TQ.block_normal ?_
                        refine TQ.meetF ((by first | exact (l ++ [(key, num)], (a115, c115), (a120, c120)) | exact (l.eraseIdx j0, (a141, c141), (a151, c151)) | (have := hTset; exact (l.set j0 (key, num), (ka, kc), (some ⟨gv, offv, none⟩, vc))) | exact (l, (ka, kc), (some ⟨gv, offv, none⟩, vc)) | exact (l, (ka, kc), (va, vc)))) ((by first | (have h := tput_len (q := key) (x := num) hl; have h2 := nodup_put (M := M) (q := key) (x := num) hn; rw [hTset] at h h2; exact ⟨h, h2⟩) | (have h := tput_len (q := key) (x := num) hl; have h2 := nodup_put (M := M) (q := key) (x := num) hn; rw [hTnew] at h h2; exact ⟨h, h2⟩) | (have h := tdrop_le' (q := key) hl; have h2 := nodup_drop (q := key) hn; rw [hTdrop] at h h2; exact ⟨h, h2⟩) | exact ⟨hl, hn⟩)) trivial (by (repeat first | apply Grow.refl | apply Grow.step | apply Grow.app)) ?_ ?_
                        · kernel_rfl
                        · simp only [List.cons_append, List.nil_append]
                          exact (by first | (simp only [KO, VO, hTset, List.length_set, set_fst hy0]; exact ett) | (rw [hTnew]; exact ett) | (rw [hTfull]; exact ett) | (rw [hTdrop]; exact ett) | (rw [hTdn]; exact ett) | exact ett)
                    · skip
                      refine TAo.eff rfl rfl rfl rfl (X.lit rfl el29 rfl rfl rfl (by decide) rfl) ?_
                      rintro _ _ ⟨g119, rfl, rfl⟩
                      refine ⟨(Or.inr (by repeat first | exact holds_nil | refine holds_cons inn ?_)), ?_⟩
                      refine TA.one 3 (by kernel_rfl) rfl rfl rfl rfl (X.lit rfl el42 rfl rfl rfl (by decide) rfl) ?_
                      rintro _ _ ⟨g114, rfl, rfl⟩
                      refine ⟨(Or.inr (by repeat first | exact holds_nil | refine holds_cons inn ?_)), ?_⟩
                      refine TA.one 4 (by kernel_rfl) rfl rfl rfl rfl (X.appendS rfl el42 rfl pul rfl (by first | exact Src.owns Try.underlying42 inn | exact Src.rds Try.underlying42 inn | exact Src.reads (by assumption) Try.underlying42 inn) (by simp only [maxLen]; omega) (by omega)) ?_
                      rintro _ _ ⟨a115, c115, rfl, rfl⟩
                      rw [show Dat.cs (l.map Prod.fst) ++ [vS key] = Dat.cs ((l ++ [(key, num)]).map Prod.fst) by rw [List.map_append, Dat.cs_app]; rfl, show l.length + 1 = (l ++ [(key, num)]).length by simp]
                      refine ⟨(Or.inr (by repeat first | exact holds_nil | refine holds_cons inn ?_)), ?_⟩
                      refine TA.one 9 (by kernel_rfl) rfl rfl rfl rfl (X.appendS rfl el29 rfl pul rfl (by first | exact Src.owns Try.underlying29 inn | exact Src.rds Try.underlying29 inn | exact Src.reads (by assumption) Try.underlying29 inn) (by simp only [maxLen]; omega) (by omega)) ?_
                      rintro _ _ ⟨a120, c120, rfl, rfl⟩
                      rw [show Dat.cs (l.map Prod.snd) ++ [Value.int .i32 num.n] = Dat.cs ((l ++ [(key, num)]).map Prod.snd) by rw [List.map_append, Dat.cs_app]; rfl, show l.length + 1 = (l ++ [(key, num)]).length by simp]
                      refine ⟨(Or.inr (by repeat first | exact holds_nil | refine holds_cons inn ?_)), ?_⟩
                      refine TA.one0 10 (by kernel_rfl) rfl rfl rfl (by first | exact X.store rfl sz42 rfl rfl rfl pul lnn (by first | exact setM | rfl) | exact X.storeOwn rfl sz42 rfl (Nat.zero_add _).symm rfl rfl pul lnn (by first | exact setML | rfl) | exact X.storeOwn rfl sz42 rfl rfl rfl rfl pul lnn (by first | exact setML | rfl)) ?_
                      rintro _ _ rfl
                      refine ⟨(Or.inl (by kernel_rfl)), ?_⟩
                      refine TA.one0 11 (by kernel_rfl) rfl rfl rfl (by first | exact X.store rfl sz29 rfl rfl rfl pul lnn (by first | exact setM | rfl) | exact X.storeOwn rfl sz29 rfl (Nat.zero_add _).symm rfl rfl pul lnn (by first | exact setML | rfl) | exact X.storeOwn rfl sz29 rfl rfl rfl rfl pul lnn (by first | exact setML | rfl)) ?_
                      rintro _ _ rfl
                      refine ⟨(Or.inl (by kernel_rfl)), ?_⟩
                      refine TA.done (by kernel_rfl) ?_
                      refine TQ.block_normal ?_
                      refine TQ.meetF ((by first | exact (l ++ [(key, num)], (a115, c115), (a120, c120)) | exact (l.eraseIdx j0, (a141, c141), (a151, c151)) | (have := hTset; exact (l.set j0 (key, num), (ka, kc), (some ⟨gv, offv, none⟩, vc))) | exact (l, (ka, kc), (some ⟨gv, offv, none⟩, vc)) | exact (l, (ka, kc), (va, vc)))) ((by first | (have h := tput_len (q := key) (x := num) hl; have h2 := nodup_put (M := M) (q := key) (x := num) hn; rw [hTset] at h h2; exact ⟨h, h2⟩) | (have h := tput_len (q := key) (x := num) hl; have h2 := nodup_put (M := M) (q := key) (x := num) hn; rw [hTnew] at h h2; exact ⟨h, h2⟩) | (have h := tdrop_le' (q := key) hl; have h2 := nodup_drop (q := key) hn; rw [hTdrop] at h h2; exact ⟨h, h2⟩) | exact ⟨hl, hn⟩)) trivial (by (repeat first | apply Grow.refl | apply Grow.step | apply Grow.app)) ?_ ?_
                      · kernel_rfl
                      · simp only [List.cons_append, List.nil_append]
                        exact (by first | (simp only [KO, VO, hTset, List.length_set, set_fst hy0]; exact ett) | (rw [hTnew]; exact ett) | (rw [hTfull]; exact ett) | (rw [hTdrop]; exact ett) | (rw [hTdn]; exact ett) | exact ett)
                · skip
                  refine TAo.eff rfl rfl rfl rfl (Eff.val (fun _ h => by cases h) (Y.load rfl sc21 rfl celD)) ?_
                  rintro _ _ ⟨rfl, rfl⟩
                  refine ⟨Or.inr (by repeat first | exact holds_nil | refine holds_cons inn ?_), ?_⟩
                  refine TA.as (.int .i32 num.n) (by rfl) ?_
                  refine TA.any (rs := [3, 5, 8]) (by kernel_rfl) (by simp) ?_
                  simp only [List.forall_mem_cons, List.not_mem_nil, false_implies, implies_true, and_true]
                  refine ⟨?_, ?_, ?_⟩
                  · skip
                    refine TAo.eff rfl rfl rfl rfl (X.lit rfl el42 rfl rfl rfl (by decide) rfl) ?_
                    rintro _ _ ⟨g114, rfl, rfl⟩
                    refine ⟨(Or.inr (by repeat first | exact holds_nil | refine holds_cons inn ?_)), ?_⟩
                    refine TA.any (rs := [4, 5, 8]) (by kernel_rfl) (by simp) ?_
                    simp only [List.forall_mem_cons, List.not_mem_nil, false_implies, implies_true, and_true]
                    refine ⟨?_, ?_, ?_⟩
                    · skip
                      refine TAo.eff rfl rfl rfl rfl (X.appendS rfl el42 rfl pul rfl (by first | exact Src.owns Try.underlying42 inn | exact Src.rds Try.underlying42 inn | exact Src.reads (by assumption) Try.underlying42 inn) (by simp only [maxLen]; omega) (by omega)) ?_
                      rintro _ _ ⟨a115, c115, rfl, rfl⟩
                      rw [show Dat.cs (l.map Prod.fst) ++ [vS key] = Dat.cs ((l ++ [(key, num)]).map Prod.fst) by rw [List.map_append, Dat.cs_app]; rfl, show l.length + 1 = (l ++ [(key, num)]).length by simp]
                      refine ⟨(Or.inr (by repeat first | exact holds_nil | refine holds_cons inn ?_)), ?_⟩
                      refine TA.any (rs := [5, 8]) (by kernel_rfl) (by simp) ?_
                      simp only [List.forall_mem_cons, List.not_mem_nil, false_implies, implies_true, and_true]
                      refine ⟨?_, ?_⟩
                      · skip
                        refine TAo.eff rfl rfl rfl rfl (Eff.val (fun _ h => by cases h) (Y.load rfl sc29 rfl celD)) ?_
                        rintro _ _ ⟨rfl, rfl⟩
                        refine ⟨Or.inr (by repeat first | exact holds_nil | refine holds_cons inn ?_), ?_⟩
                        refine TA.as (.slice va l.length vc) (by rfl) ?_
                        refine TA.one 8 (by kernel_rfl) rfl rfl rfl rfl (X.lit rfl el29 rfl rfl rfl (by decide) rfl) ?_
                        rintro _ _ ⟨g119, rfl, rfl⟩
                        refine ⟨(Or.inr (by repeat first | exact holds_nil | refine holds_cons inn ?_)), ?_⟩
                        refine TA.one 9 (by kernel_rfl) rfl rfl rfl rfl (X.appendS rfl el29 rfl pul rfl (by first | exact Src.owns Try.underlying29 inn | exact Src.rds Try.underlying29 inn | exact Src.reads (by assumption) Try.underlying29 inn) (by simp only [maxLen]; omega) (by omega)) ?_
                        rintro _ _ ⟨a120, c120, rfl, rfl⟩
                        rw [show Dat.cs (l.map Prod.snd) ++ [Value.int .i32 num.n] = Dat.cs ((l ++ [(key, num)]).map Prod.snd) by rw [List.map_append, Dat.cs_app]; rfl, show l.length + 1 = (l ++ [(key, num)]).length by simp]
                        refine ⟨(Or.inr (by repeat first | exact holds_nil | refine holds_cons inn ?_)), ?_⟩
                        refine TA.one0 10 (by kernel_rfl) rfl rfl rfl (by first | exact X.store rfl sz42 rfl rfl rfl pul lnn (by first | exact setM | rfl) | exact X.storeOwn rfl sz42 rfl (Nat.zero_add _).symm rfl rfl pul lnn (by first | exact setML | rfl) | exact X.storeOwn rfl sz42 rfl rfl rfl rfl pul lnn (by first | exact setML | rfl)) ?_
                        rintro _ _ rfl
                        refine ⟨(Or.inl (by kernel_rfl)), ?_⟩
                        refine TA.one0 11 (by kernel_rfl) rfl rfl rfl (by first | exact X.store rfl sz29 rfl rfl rfl pul lnn (by first | exact setM | rfl) | exact X.storeOwn rfl sz29 rfl (Nat.zero_add _).symm rfl rfl pul lnn (by first | exact setML | rfl) | exact X.storeOwn rfl sz29 rfl rfl rfl rfl pul lnn (by first | exact setML | rfl)) ?_
                        rintro _ _ rfl
                        refine ⟨(Or.inl (by kernel_rfl)), ?_⟩
                        refine TA.done (by kernel_rfl) ?_
                        refine TQ.block_normal ?_
                        refine TQ.meetF ((by first | exact (l ++ [(key, num)], (a115, c115), (a120, c120)) | exact (l.eraseIdx j0, (a141, c141), (a151, c151)) | (have := hTset; exact (l.set j0 (key, num), (ka, kc), (some ⟨gv, offv, none⟩, vc))) | exact (l, (ka, kc), (some ⟨gv, offv, none⟩, vc)) | exact (l, (ka, kc), (va, vc)))) ((by first | (have h := tput_len (q := key) (x := num) hl; have h2 := nodup_put (M := M) (q := key) (x := num) hn; rw [hTset] at h h2; exact ⟨h, h2⟩) | (have h := tput_len (q := key) (x := num) hl; have h2 := nodup_put (M := M) (q := key) (x := num) hn; rw [hTnew] at h h2; exact ⟨h, h2⟩) | (have h := tdrop_le' (q := key) hl; have h2 := nodup_drop (q := key) hn; rw [hTdrop] at h h2; exact ⟨h, h2⟩) | exact ⟨hl, hn⟩)) trivial (by (repeat first | apply Grow.refl | apply Grow.step | apply Grow.app)) ?_ ?_
                        · kernel_rfl
                        · simp only [List.cons_append, List.nil_append]
                          exact (by first | (simp only [KO, VO, hTset, List.length_set, set_fst hy0]; exact ett) | (rw [hTnew]; exact ett) | (rw [hTfull]; exact ett) | (rw [hTdrop]; exact ett) | (rw [hTdn]; exact ett) | exact ett)
                      · skip
                        refine TAo.eff rfl rfl rfl rfl (X.lit rfl el29 rfl rfl rfl (by decide) rfl) ?_
                        rintro _ _ ⟨g119, rfl, rfl⟩
                        refine ⟨(Or.inr (by repeat first | exact holds_nil | refine holds_cons inn ?_)), ?_⟩
                        refine TA.one 5 (by kernel_rfl) rfl rfl rfl rfl (Eff.val (fun _ h => by cases h) (Y.load rfl sc29 rfl celD)) ?_
                        rintro _ _ ⟨rfl, rfl⟩
                        refine ⟨Or.inr (by repeat first | exact holds_nil | refine holds_cons inn ?_), ?_⟩
                        refine TA.as (.slice va l.length vc) (by rfl) ?_
                        refine TA.one 9 (by kernel_rfl) rfl rfl rfl rfl (X.appendS rfl el29 rfl pul rfl (by first | exact Src.owns Try.underlying29 inn | exact Src.rds Try.underlying29 inn | exact Src.reads (by assumption) Try.underlying29 inn) (by simp only [maxLen]; omega) (by omega)) ?_
                        rintro _ _ ⟨a120, c120, rfl, rfl⟩
                        rw [show Dat.cs (l.map Prod.snd) ++ [Value.int .i32 num.n] = Dat.cs ((l ++ [(key, num)]).map Prod.snd) by rw [List.map_append, Dat.cs_app]; rfl, show l.length + 1 = (l ++ [(key, num)]).length by simp]
                        refine ⟨(Or.inr (by repeat first | exact holds_nil | refine holds_cons inn ?_)), ?_⟩
                        refine TA.one0 10 (by kernel_rfl) rfl rfl rfl (by first | exact X.store rfl sz42 rfl rfl rfl pul lnn (by first | exact setM | rfl) | exact X.storeOwn rfl sz42 rfl (Nat.zero_add _).symm rfl rfl pul lnn (by first | exact setML | rfl) | exact X.storeOwn rfl sz42 rfl rfl rfl rfl pul lnn (by first | exact setML | rfl)) ?_
                        rintro _ _ rfl
                        refine ⟨(Or.inl (by kernel_rfl)), ?_⟩
                        refine TA.one0 11 (by kernel_rfl) rfl rfl rfl (by first | exact X.store rfl sz29 rfl rfl rfl pul lnn (by first | exact setM | rfl) | exact X.storeOwn rfl sz29 rfl (Nat.zero_add _).symm rfl rfl pul lnn (by first | exact setML | rfl) | exact X.storeOwn rfl sz29 rfl rfl rfl rfl pul lnn (by first | exact setML | rfl)) ?_
                        rintro _ _ rfl
                        refine ⟨(Or.inl (by kernel_rfl)), ?_⟩
                        refine TA.done (by kernel_rfl) ?_
                        refine TQ.block_normal ?_
                        refine TQ.meetF ((by first | exact (l ++ [(key, num)], (a115, c115), (a120, c120)) | exact (l.eraseIdx j0, (a141, c141), (a151, c151)) | (have := hTset; exact (l.set j0 (key, num), (ka, kc), (some ⟨gv, offv, none⟩, vc))) | exact (l, (ka, kc), (some ⟨gv, offv, none⟩, vc)) | exact (l, (ka, kc), (va, vc)))) ((by first | (have h := tput_len (q := key) (x := num) hl; have h2 := nodup_put (M := M) (q := key) (x := num) hn; rw [hTset] at h h2; exact ⟨h, h2⟩) | (have h := tput_len (q := key) (x := num) hl; have h2 := nodup_put (M := M) (q := key) (x := num) hn; rw [hTnew] at h h2; exact ⟨h, h2⟩) | (have h := tdrop_le' (q := key) hl; have h2 := nodup_drop (q := key) hn; rw [hTdrop] at h h2; exact ⟨h, h2⟩) | exact ⟨hl, hn⟩)) trivial (by (repeat first | apply Grow.refl | apply Grow.step | apply Grow.app)) ?_ ?_
                        · kernel_rfl
                        · simp only [List.cons_append, List.nil_append]
                          exact (by first | (simp only [KO, VO, hTset, List.length_set, set_fst hy0]; exact ett) | (rw [hTnew]; exact ett) | (rw [hTfull]; exact ett) | (rw [hTdrop]; exact ett) | (rw [hTdn]; exact ett) | exact ett)
                    · skip
                      refine TAo.eff rfl rfl rfl rfl (Eff.val (fun _ h => by cases h) (Y.load rfl sc29 rfl celD)) ?_
                      rintro _ _ ⟨rfl, rfl⟩
                      refine ⟨Or.inr (by repeat first | exact holds_nil | refine holds_cons inn ?_), ?_⟩
                      refine TA.as (.slice va l.length vc) (by rfl) ?_
                      refine TA.any (rs := [4, 8]) (by kernel_rfl) (by simp) ?_
                      simp only [List.forall_mem_cons, List.not_mem_nil, false_implies, implies_true, and_true]
                      refine ⟨?_, ?_⟩
                      · skip
                        refine TAo.eff rfl rfl rfl rfl (X.appendS rfl el42 rfl pul rfl (by first | exact Src.owns Try.underlying42 inn | exact Src.rds Try.underlying42 inn | exact Src.reads (by assumption) Try.underlying42 inn) (by simp only [maxLen]; omega) (by omega)) ?_
                        rintro _ _ ⟨a115, c115, rfl, rfl⟩
                        rw [show Dat.cs (l.map Prod.fst) ++ [vS key] = Dat.cs ((l ++ [(key, num)]).map Prod.fst) by rw [List.map_append, Dat.cs_app]; rfl, show l.length + 1 = (l ++ [(key, num)]).length by simp]
                        refine ⟨(Or.inr (by repeat first | exact holds_nil | refine holds_cons inn ?_)), ?_⟩
                        refine TA.one 8 (by kernel_rfl) rfl rfl rfl rfl (X.lit rfl el29 rfl rfl rfl (by decide) rfl) ?_
                        rintro _ _ ⟨g119, rfl, rfl⟩
                        refine ⟨(Or.inr (by repeat first | exact holds_nil | refine holds_cons inn ?_)), ?_⟩
                        refine TA.one 9 (by kernel_rfl) rfl rfl rfl rfl (X.appendS rfl el29 rfl pul rfl (by first | exact Src.owns Try.underlying29 inn | exact Src.rds Try.underlying29 inn | exact Src.reads (by assumption) Try.underlying29 inn) (by simp only [maxLen]; omega) (by omega)) ?_
                        rintro _ _ ⟨a120, c120, rfl, rfl⟩
                        rw [show Dat.cs (l.map Prod.snd) ++ [Value.int .i32 num.n] = Dat.cs ((l ++ [(key, num)]).map Prod.snd) by rw [List.map_append, Dat.cs_app]; rfl, show l.length + 1 = (l ++ [(key, num)]).length by simp]
                        refine ⟨(Or.inr (by repeat first | exact holds_nil | refine holds_cons inn ?_)), ?_⟩
                        refine TA.one0 10 (by kernel_rfl) rfl rfl rfl (by first | exact X.store rfl sz42 rfl rfl rfl pul lnn (by first | exact setM | rfl) | exact X.storeOwn rfl sz42 rfl (Nat.zero_add _).symm rfl rfl pul lnn (by first | exact setML | rfl) | exact X.storeOwn rfl sz42 rfl rfl rfl rfl pul lnn (by first | exact setML | rfl)) ?_
                        rintro _ _ rfl
                        refine ⟨(Or.inl (by kernel_rfl)), ?_⟩
                        refine TA.one0 11 (by kernel_rfl) rfl rfl rfl (by first | exact X.store rfl sz29 rfl rfl rfl pul lnn (by first | exact setM | rfl) | exact X.storeOwn rfl sz29 rfl (Nat.zero_add _).symm rfl rfl pul lnn (by first | exact setML | rfl) | exact X.storeOwn rfl sz29 rfl rfl rfl rfl pul lnn (by first | exact setML | rfl)) ?_
                        rintro _ _ rfl
                        refine ⟨(Or.inl (by kernel_rfl)), ?_⟩
                        refine TA.done (by kernel_rfl) ?_
                        refine TQ.block_normal ?_
                        refine TQ.meetF ((by first | exact (l ++ [(key, num)], (a115, c115), (a120, c120)) | exact (l.eraseIdx j0, (a141, c141), (a151, c151)) | (have := hTset; exact (l.set j0 (key, num), (ka, kc), (some ⟨gv, offv, none⟩, vc))) | exact (l, (ka, kc), (some ⟨gv, offv, none⟩, vc)) | exact (l, (ka, kc), (va, vc)))) ((by first | (have h := tput_len (q := key) (x := num) hl; have h2 := nodup_put (M := M) (q := key) (x := num) hn; rw [hTset] at h h2; exact ⟨h, h2⟩) | (have h := tput_len (q := key) (x := num) hl; have h2 := nodup_put (M := M) (q := key) (x := num) hn; rw [hTnew] at h h2; exact ⟨h, h2⟩) | (have h := tdrop_le' (q := key) hl; have h2 := nodup_drop (q := key) hn; rw [hTdrop] at h h2; exact ⟨h, h2⟩) | exact ⟨hl, hn⟩)) trivial (by (repeat first | apply Grow.refl | apply Grow.step | apply Grow.app)) ?_ ?_
                        · kernel_rfl
                        · simp only [List.cons_append, List.nil_append]
                          exact (by first | (simp only [KO, VO, hTset, List.length_set, set_fst hy0]; exact ett) | (rw [hTnew]; exact ett) | (rw [hTfull]; exact ett) | (rw [hTdrop]; exact ett) | (rw [hTdn]; exact ett) | exact ett)
                      · skip
                        refine TAo.eff rfl rfl rfl rfl (X.lit rfl el29 rfl rfl rfl (by decide) rfl) ?_
                        rintro _ _ ⟨g119, rfl, rfl⟩
                        refine ⟨(Or.inr (by repeat first | exact holds_nil | refine holds_cons inn ?_)), ?_⟩
                        refine TA.one 4 (by kernel_rfl) rfl rfl rfl rfl (X.appendS rfl el42 rfl pul rfl (by first | exact Src.owns Try.underlying42 inn | exact Src.rds Try.underlying42 inn | exact Src.reads (by assumption) Try.underlying42 inn) (by simp only [maxLen]; omega) (by omega)) ?_
                        rintro _ _ ⟨a115, c115, rfl, rfl⟩
                        rw [show Dat.cs (l.map Prod.fst) ++ [vS key] = Dat.cs ((l ++ [(key, num)]).map Prod.fst) by rw [List.map_append, Dat.cs_app]; rfl, show l.length + 1 = (l ++ [(key, num)]).length by simp]
                        refine ⟨(Or.inr (by repeat first | exact holds_nil | refine holds_cons inn ?_)), ?_⟩
                        refine TA.one 9 (by kernel_rfl) rfl rfl rfl rfl (X.appendS rfl el29 rfl pul rfl (by first | exact Src.owns Try.underlying29 inn | exact Src.rds Try.underlying29 inn | exact Src.reads (by assumption) Try.underlying29 inn) (by simp only [maxLen]; omega) (by omega)) ?_
                        rintro _ _ ⟨a120, c120, rfl, rfl⟩
                        rw [show Dat.cs (l.map Prod.snd) ++ [Value.int .i32 num.n] = Dat.cs ((l ++ [(key, num)]).map Prod.snd) by rw [List.map_append, Dat.cs_app]; rfl, show l.length + 1 = (l ++ [(key, num)]).length by simp]
                        refine ⟨(Or.inr (by repeat first | exact holds_nil | refine holds_cons inn ?_)), ?_⟩
                        refine TA.one0 10 (by kernel_rfl) rfl rfl rfl (by first | exact X.store rfl sz42 rfl rfl rfl pul lnn (by first | exact setM | rfl) | exact X.storeOwn rfl sz42 rfl (Nat.zero_add _).symm rfl rfl pul lnn (by first | exact setML | rfl) | exact X.storeOwn rfl sz42 rfl rfl rfl rfl pul lnn (by first | exact setML | rfl)) ?_
                        rintro _ _ rfl
                        refine ⟨(Or.inl (by kernel_rfl)), ?_⟩
                        refine TA.one0 11 (by kernel_rfl) rfl rfl rfl (by first | exact X.store rfl sz29 rfl rfl rfl pul lnn (by first | exact setM | rfl) | exact X.storeOwn rfl sz29 rfl (Nat.zero_add _).symm rfl rfl pul lnn (by first | exact setML | rfl) | exact X.storeOwn rfl sz29 rfl rfl rfl rfl pul lnn (by first | exact setML | rfl)) ?_
                        rintro _ _ rfl
                        refine ⟨(Or.inl (by kernel_rfl)), ?_⟩
                        refine TA.done (by kernel_rfl) ?_
                        refine TQ.block_normal ?_
                        refine TQ.meetF ((by first | exact (l ++ [(key, num)], (a115, c115), (a120, c120)) | exact (l.eraseIdx j0, (a141, c141), (a151, c151)) | (have := hTset; exact (l.set j0 (key, num), (ka, kc), (some ⟨gv, offv, none⟩, vc))) | exact (l, (ka, kc), (some ⟨gv, offv, none⟩, vc)) | exact (l, (ka, kc), (va, vc)))) ((by first | (have h := tput_len (q := key) (x := num) hl; have h2 := nodup_put (M := M) (q := key) (x := num) hn; rw [hTset] at h h2; exact ⟨h, h2⟩) | (have h := tput_len (q := key) (x := num) hl; have h2 := nodup_put (M := M) (q := key) (x := num) hn; rw [hTnew] at h h2; exact ⟨h, h2⟩) | (have h := tdrop_le' (q := key) hl; have h2 := nodup_drop (q := key) hn; rw [hTdrop] at h h2; exact ⟨h, h2⟩) | exact ⟨hl, hn⟩)) trivial (by (repeat first | apply Grow.refl | apply Grow.step | apply Grow.app)) ?_ ?_
                        · kernel_rfl
                        · simp only [List.cons_append, List.nil_append]
                          exact (by first | (simp only [KO, VO, hTset, List.length_set, set_fst hy0]; exact ett) | (rw [hTnew]; exact ett) | (rw [hTfull]; exact ett) | (rw [hTdrop]; exact ett) | (rw [hTdn]; exact ett) | exact ett)
                    · skip
                      refine TAo.eff rfl rfl rfl rfl (X.lit rfl el29 rfl rfl rfl (by decide) rfl) ?_
                      rintro _ _ ⟨g119, rfl, rfl⟩
                      refine ⟨(Or.inr (by repeat first | exact holds_nil | refine holds_cons inn ?_)), ?_⟩
                      refine TA.any (rs := [4, 5]) (by kernel_rfl) (by simp) ?_
                      simp only [List.forall_mem_cons, List.not_mem_nil, false_implies, implies_true, and_true]
                      refine ⟨?_, ?_⟩
                      · skip
                        refine TAo.eff rfl rfl rfl rfl (X.appendS rfl el42 rfl pul rfl (by first | exact Src.owns Try.underlying42 inn | exact Src.rds Try.underlying42 inn | exact Src.reads (by assumption) Try.underlying42 inn) (by simp only [maxLen]; omega) (by omega)) ?_
                        rintro _ _ ⟨a115, c115, rfl, rfl⟩
                        rw [show Dat.cs (l.map Prod.fst) ++ [vS key] = Dat.cs ((l ++ [(key, num)]).map Prod.fst) by rw [List.map_append, Dat.cs_app]; rfl, show l.length + 1 = (l ++ [(key, num)]).length by simp]
                        refine ⟨(Or.inr (by repeat first | exact holds_nil | refine holds_cons inn ?_)), ?_⟩
                        refine TA.one 5 (by kernel_rfl) rfl rfl rfl rfl (Eff.val (fun _ h => by cases h) (Y.load rfl sc29 rfl celD)) ?_
                        rintro _ _ ⟨rfl, rfl⟩
                        refine ⟨Or.inr (by repeat first | exact holds_nil | refine holds_cons inn ?_), ?_⟩
                        refine TA.as (.slice va l.length vc) (by rfl) ?_
                        refine TA.one 9 (by kernel_rfl) rfl rfl rfl rfl (X.appendS rfl el29 rfl pul rfl (by first | exact Src.owns Try.underlying29 inn | exact Src.rds Try.underlying29 inn | exact Src.reads (by assumption) Try.underlying29 inn) (by simp only [maxLen]; omega) (by omega)) ?_
                        rintro _ _ ⟨a120, c120, rfl, rfl⟩
                        rw [show Dat.cs (l.map Prod.snd) ++ [Value.int .i32 num.n] = Dat.cs ((l ++ [(key, num)]).map Prod.snd) by rw [List.map_append, Dat.cs_app]; rfl, show l.length + 1 = (l ++ [(key, num)]).length by simp]
                        refine ⟨(Or.inr (by repeat first | exact holds_nil | refine holds_cons inn ?_)), ?_⟩
                        refine TA.one0 10 (by kernel_rfl) rfl rfl rfl (by first | exact X.store rfl sz42 rfl rfl rfl pul lnn (by first | exact setM | rfl) | exact X.storeOwn rfl sz42 rfl (Nat.zero_add _).symm rfl rfl pul lnn (by first | exact setML | rfl) | exact X.storeOwn rfl sz42 rfl rfl rfl rfl pul lnn (by first | exact setML | rfl)) ?_
                        rintro _ _ rfl
                        refine ⟨(Or.inl (by kernel_rfl)), ?_⟩
                        refine TA.one0 11 (by kernel_rfl) rfl rfl rfl (by first | exact X.store rfl sz29 rfl rfl rfl pul lnn (by first | exact setM | rfl) | exact X.storeOwn rfl sz29 rfl (Nat.zero_add _).symm rfl rfl pul lnn (by first | exact setML | rfl) | exact X.storeOwn rfl sz29 rfl rfl rfl rfl pul lnn (by first | exact setML | rfl)) ?_
                        rintro _ _ rfl
                        refine ⟨(Or.inl (by kernel_rfl)), ?_⟩
                        refine TA.done (by kernel_rfl) ?_
                        refine TQ.block_normal ?_
                        refine TQ.meetF ((by first | exact (l ++ [(key, num)], (a115, c115), (a120, c120)) | exact (l.eraseIdx j0, (a141, c141), (a151, c151)) | (have := hTset; exact (l.set j0 (key, num), (ka, kc), (some ⟨gv, offv, none⟩, vc))) | exact (l, (ka, kc), (some ⟨gv, offv, none⟩, vc)) | exact (l, (ka, kc), (va, vc)))) ((by first | (have h := tput_len (q := key) (x := num) hl; have h2 := nodup_put (M := M) (q := key) (x := num) hn; rw [hTset] at h h2; exact ⟨h, h2⟩) | (have h := tput_len (q := key) (x := num) hl; have h2 := nodup_put (M := M) (q := key) (x := num) hn; rw [hTnew] at h h2; exact ⟨h, h2⟩) | (have h := tdrop_le' (q := key) hl; have h2 := nodup_drop (q := key) hn; rw [hTdrop] at h h2; exact ⟨h, h2⟩) | exact ⟨hl, hn⟩)) trivial (by (repeat first | apply Grow.refl | apply Grow.step | apply Grow.app)) ?_ ?_
                        · kernel_rfl
                        · simp only [List.cons_append, List.nil_append]
                          exact (by first | (simp only [KO, VO, hTset, List.length_set, set_fst hy0]; exact ett) | (rw [hTnew]; exact ett) | (rw [hTfull]; exact ett) | (rw [hTdrop]; exact ett) | (rw [hTdn]; exact ett) | exact ett)
                      · skip
                        refine TAo.eff rfl rfl rfl rfl (Eff.val (fun _ h => by cases h) (Y.load rfl sc29 rfl celD)) ?_
                        rintro _ _ ⟨rfl, rfl⟩
                        refine ⟨Or.inr (by repeat first | exact holds_nil | refine holds_cons inn ?_), ?_⟩
                        refine TA.as (.slice va l.length vc) (by rfl) ?_
                        refine TA.one 4 (by kernel_rfl) rfl rfl rfl rfl (X.appendS rfl el42 rfl pul rfl (by first | exact Src.owns Try.underlying42 inn | exact Src.rds Try.underlying42 inn | exact Src.reads (by assumption) Try.underlying42 inn) (by simp only [maxLen]; omega) (by omega)) ?_
                        rintro _ _ ⟨a115, c115, rfl, rfl⟩
                        rw [show Dat.cs (l.map Prod.fst) ++ [vS key] = Dat.cs ((l ++ [(key, num)]).map Prod.fst) by rw [List.map_append, Dat.cs_app]; rfl, show l.length + 1 = (l ++ [(key, num)]).length by simp]
                        refine ⟨(Or.inr (by repeat first | exact holds_nil | refine holds_cons inn ?_)), ?_⟩
                        refine TA.one 9 (by kernel_rfl) rfl rfl rfl rfl (X.appendS rfl el29 rfl pul rfl (by first | exact Src.owns Try.underlying29 inn | exact Src.rds Try.underlying29 inn | exact Src.reads (by assumption) Try.underlying29 inn) (by simp only [maxLen]; omega) (by omega)) ?_
                        rintro _ _ ⟨a120, c120, rfl, rfl⟩
                        rw [show Dat.cs (l.map Prod.snd) ++ [Value.int .i32 num.n] = Dat.cs ((l ++ [(key, num)]).map Prod.snd) by rw [List.map_append, Dat.cs_app]; rfl, show l.length + 1 = (l ++ [(key, num)]).length by simp]
                        refine ⟨(Or.inr (by repeat first | exact holds_nil | refine holds_cons inn ?_)), ?_⟩
                        refine TA.one0 10 (by kernel_rfl) rfl rfl rfl (by first | exact X.store rfl sz42 rfl rfl rfl pul lnn (by first | exact setM | rfl) | exact X.storeOwn rfl sz42 rfl (Nat.zero_add _).symm rfl rfl pul lnn (by first | exact setML | rfl) | exact X.storeOwn rfl sz42 rfl rfl rfl rfl pul lnn (by first | exact setML | rfl)) ?_
                        rintro _ _ rfl
                        refine ⟨(Or.inl (by kernel_rfl)), ?_⟩
                        refine TA.one0 11 (by kernel_rfl) rfl rfl rfl (by first | exact X.store rfl sz29 rfl rfl rfl pul lnn (by first | exact setM | rfl) | exact X.storeOwn rfl sz29 rfl (Nat.zero_add _).symm rfl rfl pul lnn (by first | exact setML | rfl) | exact X.storeOwn rfl sz29 rfl rfl rfl rfl pul lnn (by first | exact setML | rfl)) ?_
                        rintro _ _ rfl
                        refine ⟨(Or.inl (by kernel_rfl)), ?_⟩
                        refine TA.done (by kernel_rfl) ?_
                        refine TQ.block_normal ?_
                        refine TQ.meetF ((by first | exact (l ++ [(key, num)], (a115, c115), (a120, c120)) | exact (l.eraseIdx j0, (a141, c141), (a151, c151)) | (have := hTset; exact (l.set j0 (key, num), (ka, kc), (some ⟨gv, offv, none⟩, vc))) | exact (l, (ka, kc), (some ⟨gv, offv, none⟩, vc)) | exact (l, (ka, kc), (va, vc)))) ((by first | (have h := tput_len (q := key) (x := num) hl; have h2 := nodup_put (M := M) (q := key) (x := num) hn; rw [hTset] at h h2; exact ⟨h, h2⟩) | (have h := tput_len (q := key) (x := num) hl; have h2 := nodup_put (M := M) (q := key) (x := num) hn; rw [hTnew] at h h2; exact ⟨h, h2⟩) | (have h := tdrop_le' (q := key) hl; have h2 := nodup_drop (q := key) hn; rw [hTdrop] at h h2; exact ⟨h, h2⟩) | exact ⟨hl, hn⟩)) trivial (by (repeat first | apply Grow.refl | apply Grow.step | apply Grow.app)) ?_ ?_
                        · kernel_rfl
                        · simp only [List.cons_append, List.nil_append]
                          exact (by first | (simp only [KO, VO, hTset, List.length_set, set_fst hy0]; exact ett) | (rw [hTnew]; exact ett) | (rw [hTfull]; exact ett) | (rw [hTdrop]; exact ett) | (rw [hTdn]; exact ett) | exact ett)
                  · skip
                    refine TAo.eff rfl rfl rfl rfl (Eff.val (fun _ h => by cases h) (Y.load rfl sc29 rfl celD)) ?_
                    rintro _ _ ⟨rfl, rfl⟩
                    refine ⟨Or.inr (by repeat first | exact holds_nil | refine holds_cons inn ?_), ?_⟩
                    refine TA.as (.slice va l.length vc) (by rfl) ?_
                    refine TA.any (rs := [3, 8]) (by kernel_rfl) (by simp) ?_
                    simp only [List.forall_mem_cons, List.not_mem_nil, false_implies, implies_true, and_true]
                    refine ⟨?_, ?_⟩
                    · skip
                      refine TAo.eff rfl rfl rfl rfl (X.lit rfl el42 rfl rfl rfl (by decide) rfl) ?_
                      rintro _ _ ⟨g114, rfl, rfl⟩
                      refine ⟨(Or.inr (by repeat first | exact holds_nil | refine holds_cons inn ?_)), ?_⟩
                      refine TA.any (rs := [4, 8]) (by kernel_rfl) (by simp) ?_
                      simp only [List.forall_mem_cons, List.not_mem_nil, false_implies, implies_true, and_true]
                      refine ⟨?_, ?_⟩
                      · skip
                        refine TAo.eff rfl rfl rfl rfl (X.appendS rfl el42 rfl pul rfl (by first | exact Src.owns Try.underlying42 inn | exact Src.rds Try.underlying42 inn | exact Src.reads (by assumption) Try.underlying42 inn) (by simp only [maxLen]; omega) (by omega)) ?_
                        rintro _ _ ⟨a115, c115, rfl, rfl⟩
                        rw [show Dat.cs (l.map Prod.fst) ++ [vS key] = Dat.cs ((l ++ [(key, num)]).map Prod.fst) by rw [List.map_append, Dat.cs_app]; rfl, show l.length + 1 = (l ++ [(key, num)]).length by simp]
                        refine ⟨(Or.inr (by repeat first | exact holds_nil | refine holds_cons inn ?_)), ?_⟩
                        refine TA.one 8 (by kernel_rfl) rfl rfl rfl rfl (X.lit rfl el29 rfl rfl rfl (by decide) rfl) ?_
                        rintro _ _ ⟨g119, rfl, rfl⟩
                        refine ⟨(Or.inr (by repeat first | exact holds_nil | refine holds_cons inn ?_)), ?_⟩
                        refine TA.one 9 (by kernel_rfl) rfl rfl rfl rfl (X.appendS rfl el29 rfl pul rfl (by first | exact Src.owns Try.underlying29 inn | exact Src.rds Try.underlying29 inn | exact Src.reads (by assumption) Try.underlying29 inn) (by simp only [maxLen]; omega) (by omega)) ?_
                        rintro _ _ ⟨a120, c120, rfl, rfl⟩
                        rw [show Dat.cs (l.map Prod.snd) ++ [Value.int .i32 num.n] = Dat.cs ((l ++ [(key, num)]).map Prod.snd) by rw [List.map_append, Dat.cs_app]; rfl, show l.length + 1 = (l ++ [(key, num)]).length by simp]
                        refine ⟨(Or.inr (by repeat first | exact holds_nil | refine holds_cons inn ?_)), ?_⟩
                        refine TA.one0 10 (by kernel_rfl) rfl rfl rfl (by first | exact X.store rfl sz42 rfl rfl rfl pul lnn (by first | exact setM | rfl) | exact X.storeOwn rfl sz42 rfl (Nat.zero_add _).symm rfl rfl pul lnn (by first | exact setML | rfl) | exact X.storeOwn rfl sz42 rfl rfl rfl rfl pul lnn (by first | exact setML | rfl)) ?_
                        rintro _ _ rfl
                        refine ⟨(Or.inl (by kernel_rfl)), ?_⟩
                        refine TA.one0 11 (by kernel_rfl) rfl rfl rfl (by first | exact X.store rfl sz29 rfl rfl rfl pul lnn (by first | exact setM | rfl) | exact X.storeOwn rfl sz29 rfl (Nat.zero_add _).symm rfl rfl pul lnn (by first | exact setML | rfl) | exact X.storeOwn rfl sz29 rfl rfl rfl rfl pul lnn (by first | exact setML | rfl)) ?_
                        rintro _ _ rfl
                        refine ⟨(Or.inl (by kernel_rfl)), ?_⟩
                        refine TA.done (by kernel_rfl) ?_
                        refine TQ.block_normal ?_
                        refine TQ.meetF ((by first | exact (l ++ [(key, num)], (a115, c115), (a120, c120)) | exact (l.eraseIdx j0, (a141, c141), (a151, c151)) | (have := hTset; exact (l.set j0 (key, num), (ka, kc), (some ⟨gv, offv, none⟩, vc))) | exact (l, (ka, kc), (some ⟨gv, offv, none⟩, vc)) | exact (l, (ka, kc), (va, vc)))) ((by first | (have h := tput_len (q := key) (x := num) hl; have h2 := nodup_put (M := M) (q := key) (x := num) hn; rw [hTset] at h h2; exact ⟨h, h2⟩) | (have h := tput_len (q := key) (x := num) hl; have h2 := nodup_put (M := M) (q := key) (x := num) hn; rw [hTnew] at h h2; exact ⟨h, h2⟩) | (have h := tdrop_le' (q := key) hl; have h2 := nodup_drop (q := key) hn; rw [hTdrop] at h h2; exact ⟨h, h2⟩) | exact ⟨hl, hn⟩)) trivial (by (repeat first | apply Grow.refl | apply Grow.step | apply Grow.app)) ?_ ?_
                        · kernel_rfl
                        · simp only [List.cons_append, List.nil_append]
                          exact (by first | (simp only [KO, VO, hTset, List.length_set, set_fst hy0]; exact ett) | (rw [hTnew]; exact ett) | (rw [hTfull]; exact ett) | (rw [hTdrop]; exact ett) | (rw [hTdn]; exact ett) | exact ett)
                      · skip
                        refine TAo.eff rfl rfl rfl rfl (X.lit rfl el29 rfl rfl rfl (by decide) rfl) ?_
                        rintro _ _ ⟨g119, rfl, rfl⟩
                        refine ⟨(Or.inr (by repeat first | exact holds_nil | refine holds_cons inn ?_)), ?_⟩
                        refine TA.one 4 (by kernel_rfl) rfl rfl rfl rfl (X.appendS rfl el42 rfl pul rfl (by first | exact Src.owns Try.underlying42 inn | exact Src.rds Try.underlying42 inn | exact Src.reads (by assumption) Try.underlying42 inn) (by simp only [maxLen]; omega) (by omega)) ?_
                        rintro _ _ ⟨a115, c115, rfl, rfl⟩
                        rw [show Dat.cs (l.map Prod.fst) ++ [vS key] = Dat.cs ((l ++ [(key, num)]).map Prod.fst) by rw [List.map_append, Dat.cs_app]; rfl, show l.length + 1 = (l ++ [(key, num)]).length by simp]
                        refine ⟨(Or.inr (by repeat first | exact holds_nil | refine holds_cons inn ?_)), ?_⟩
                        refine TA.one 9 (by kernel_rfl) rfl rfl rfl rfl (X.appendS rfl el29 rfl pul rfl (by first | exact Src.owns Try.underlying29 inn | exact Src.rds Try.underlying29 inn | exact Src.reads (by assumption) Try.underlying29 inn) (by simp only [maxLen]; omega) (by omega)) ?_
                        rintro _ _ ⟨a120, c120, rfl, rfl⟩
                        rw [show Dat.cs (l.map Prod.snd) ++ [Value.int .i32 num.n] = Dat.cs ((l ++ [(key, num)]).map Prod.snd) by rw [List.map_append, Dat.cs_app]; rfl, show l.length + 1 = (l ++ [(key, num)]).length by simp]
                        refine ⟨(Or.inr (by repeat first | exact holds_nil | refine holds_cons inn ?_)), ?_⟩
                        refine TA.one0 10 (by kernel_rfl) rfl rfl rfl (by first | exact X.store rfl sz42 rfl rfl rfl pul lnn (by first | exact setM | rfl) | exact X.storeOwn rfl sz42 rfl (Nat.zero_add _).symm rfl rfl pul lnn (by first | exact setML | rfl) | exact X.storeOwn rfl sz42 rfl rfl rfl rfl pul lnn (by first | exact setML | rfl)) ?_
                        rintro _ _ rfl
                        refine ⟨(Or.inl (by kernel_rfl)), ?_⟩
                        refine TA.one0 11 (by kernel_rfl) rfl rfl rfl (by first | exact X.store rfl sz29 rfl rfl rfl pul lnn (by first | exact setM | rfl) | exact X.storeOwn rfl sz29 rfl (Nat.zero_add _).symm rfl rfl pul lnn (by first | exact setML | rfl) | exact X.storeOwn rfl sz29 rfl rfl rfl rfl pul lnn (by first | exact setML | rfl)) ?_
                        rintro _ _ rfl
                        refine ⟨(Or.inl (by kernel_rfl)), ?_⟩
                        refine TA.done (by kernel_rfl) ?_
                        refine TQ.block_normal ?_
                        refine TQ.meetF ((by first | exact (l ++ [(key, num)], (a115, c115), (a120, c120)) | exact (l.eraseIdx j0, (a141, c141), (a151, c151)) | (have := hTset; exact (l.set j0 (key, num), (ka, kc), (some ⟨gv, offv, none⟩, vc))) | exact (l, (ka, kc), (some ⟨gv, offv, none⟩, vc)) | exact (l, (ka, kc), (va, vc)))) ((by first | (have h := tput_len (q := key) (x := num) hl; have h2 := nodup_put (M := M) (q := key) (x := num) hn; rw [hTset] at h h2; exact ⟨h, h2⟩) | (have h := tput_len (q := key) (x := num) hl; have h2 := nodup_put (M := M) (q := key) (x := num) hn; rw [hTnew] at h h2; exact ⟨h, h2⟩) | (have h := tdrop_le' (q := key) hl; have h2 := nodup_drop (q := key) hn; rw [hTdrop] at h h2; exact ⟨h, h2⟩) | exact ⟨hl, hn⟩)) trivial (by (repeat first | apply Grow.refl | apply Grow.step | apply Grow.app)) ?_ ?_
                        · kernel_rfl
                        · simp only [List.cons_append, List.nil_append]
                          exact (by first | (simp only [KO, VO, hTset, List.length_set, set_fst hy0]; exact ett) | (rw [hTnew]; exact ett) | (rw [hTfull]; exact ett) | (rw [hTdrop]; exact ett) | (rw [hTdn]; exact ett) | exact ett)
                    · skip
                      refine TAo.eff rfl rfl rfl rfl (X.lit rfl el29 rfl rfl rfl (by decide) rfl) ?_
                      rintro _ _ ⟨g119, rfl, rfl⟩
                      refine ⟨(Or.inr (by repeat first | exact holds_nil | refine holds_cons inn ?_)), ?_⟩
                      refine TA.one 3 (by kernel_rfl) rfl rfl rfl rfl (X.lit rfl el42 rfl rfl rfl (by decide) rfl) ?_
                      rintro _ _ ⟨g114, rfl, rfl⟩
                      refine ⟨(Or.inr (by repeat first | exact holds_nil | refine holds_cons inn ?_)), ?_⟩
                      refine TA.one 4 (by kernel_rfl) rfl rfl rfl rfl (X.appendS rfl el42 rfl pul rfl (by first | exact Src.owns Try.underlying42 inn | exact Src.rds Try.underlying42 inn | exact Src.reads (by assumption) Try.underlying42 inn) (by simp only [maxLen]; omega) (by omega)) ?_
                      rintro _ _ ⟨a115, c115, rfl, rfl⟩
                      rw [show Dat.cs (l.map Prod.fst) ++ [vS key] = Dat.cs ((l ++ [(key, num)]).map Prod.fst) by rw [List.map_append, Dat.cs_app]; rfl, show l.length + 1 = (l ++ [(key, num)]).length by simp]
                      refine ⟨(Or.inr (by repeat first | exact holds_nil | refine holds_cons inn ?_)), ?_⟩
                      refine TA.one 9 (by kernel_rfl) rfl rfl rfl rfl (X.appendS rfl el29 rfl pul rfl (by first | exact Src.owns Try.underlying29 inn | exact Src.rds Try.underlying29 inn | exact Src.reads (by assumption) Try.underlying29 inn) (by simp only [maxLen]; omega) (by omega)) ?_
                      rintro _ _ ⟨a120, c120, rfl, rfl⟩
                      rw [show Dat.cs (l.map Prod.snd) ++ [Value.int .i32 num.n] = Dat.cs ((l ++ [(key, num)]).map Prod.snd) by rw [List.map_append, Dat.cs_app]; rfl, show l.length + 1 = (l ++ [(key, num)]).length by simp]
                      refine ⟨(Or.inr (by repeat first | exact holds_nil | refine holds_cons inn ?_)), ?_⟩
                      refine TA.one0 10 (by kernel_rfl) rfl rfl rfl (by first | exact X.store rfl sz42 rfl rfl rfl pul lnn (by first | exact setM | rfl) | exact X.storeOwn rfl sz42 rfl (Nat.zero_add _).symm rfl rfl pul lnn (by first | exact setML | rfl) | exact X.storeOwn rfl sz42 rfl rfl rfl rfl pul lnn (by first | exact setML | rfl)) ?_
                      rintro _ _ rfl
                      refine ⟨(Or.inl (by kernel_rfl)), ?_⟩
                      refine TA.one0 11 (by kernel_rfl) rfl rfl rfl (by first | exact X.store rfl sz29 rfl rfl rfl pul lnn (by first | exact setM | rfl) | exact X.storeOwn rfl sz29 rfl (Nat.zero_add _).symm rfl rfl pul lnn (by first | exact setML | rfl) | exact X.storeOwn rfl sz29 rfl rfl rfl rfl pul lnn (by first | exact setML | rfl)) ?_
                      rintro _ _ rfl
                      refine ⟨(Or.inl (by kernel_rfl)), ?_⟩
                      refine TA.done (by kernel_rfl) ?_
                      refine TQ.block_normal ?_
                      refine TQ.meetF ((by first | exact (l ++ [(key, num)], (a115, c115), (a120, c120)) | exact (l.eraseIdx j0, (a141, c141), (a151, c151)) | (have := hTset; exact (l.set j0 (key, num), (ka, kc), (some ⟨gv, offv, none⟩, vc))) | exact (l, (ka, kc), (some ⟨gv, offv, none⟩, vc)) | exact (l, (ka, kc), (va, vc)))) ((by first | (have h := tput_len (q := key) (x := num) hl; have h2 := nodup_put (M := M) (q := key) (x := num) hn; rw [hTset] at h h2; exact ⟨h, h2⟩) | (have h := tput_len (q := key) (x := num) hl; have h2 := nodup_put (M := M) (q := key) (x := num) hn; rw [hTnew] at h h2; exact ⟨h, h2⟩) | (have h := tdrop_le' (q := key) hl; have h2 := nodup_drop (q := key) hn; rw [hTdrop] at h h2; exact ⟨h, h2⟩) | exact ⟨hl, hn⟩)) trivial (by (repeat first | apply Grow.refl | apply Grow.step | apply Grow.app)) ?_ ?_
                      · kernel_rfl
                      · simp only [List.cons_append, List.nil_append]
                        exact (by first | (simp only [KO, VO, hTset, List.length_set, set_fst hy0]; exact ett) | (rw [hTnew]; exact ett) | (rw [hTfull]; exact ett) | (rw [hTdrop]; exact ett) | (rw [hTdn]; exact ett) | exact ett)
                  · skip
                    refine TAo.eff rfl rfl rfl rfl (X.lit rfl el29 rfl rfl rfl (by decide) rfl) ?_
                    rintro _ _ ⟨g119, rfl, rfl⟩
                    refine ⟨(Or.inr (by repeat first | exact holds_nil | refine holds_cons inn ?_)), ?_⟩
                    refine TA.any (rs := [3, 5]) (by kernel_rfl) (by simp) ?_
                    simp only [List.forall_mem_cons, List.not_mem_nil, false_implies, implies_true, and_true]
                    refine ⟨?_, ?_⟩
                    · skip
                      refine TAo.eff rfl rfl rfl rfl (X.lit rfl el42 rfl rfl rfl (by decide) rfl) ?_
                      rintro _ _ ⟨g114, rfl, rfl⟩
                      refine ⟨(Or.inr (by repeat first | exact holds_nil | refine holds_cons inn ?_)), ?_⟩
                      refine TA.any (rs := [4, 5]) (by kernel_rfl) (by simp) ?_
                      simp only [List.forall_mem_cons, List.not_mem_nil, false_implies, implies_true, and_true]
                      refine ⟨?_, ?_⟩
                      · skip
                        refine TAo.eff rfl rfl rfl rfl (X.appendS rfl el42 rfl pul rfl (by first | exact Src.owns Try.underlying42 inn | exact Src.rds Try.underlying42 inn | exact Src.reads (by assumption) Try.underlying42 inn) (by simp only [maxLen]; omega) (by omega)) ?_
                        rintro _ _ ⟨a115, c115, rfl, rfl⟩
                        rw [show Dat.cs (l.map Prod.fst) ++ [vS key] = Dat.cs ((l ++ [(key, num)]).map Prod.fst) by rw [List.map_append, Dat.cs_app]; rfl, show l.length + 1 = (l ++ [(key, num)]).length by simp]
                        refine ⟨(Or.inr (by repeat first | exact holds_nil | refine holds_cons inn ?_)), ?_⟩
                        refine TA.one 5 (by kernel_rfl) rfl rfl rfl rfl (Eff.val (fun _ h => by cases h) (Y.load rfl sc29 rfl celD)) ?_
                        rintro _ _ ⟨rfl, rfl⟩
                        refine ⟨Or.inr (by repeat first | exact holds_nil | refine holds_cons inn ?_), ?_⟩
                        refine TA.as (.slice va l.length vc) (by rfl) ?_
                        refine TA.one 9 (by kernel_rfl) rfl rfl rfl rfl (X.appendS rfl el29 rfl pul rfl (by first | exact Src.owns Try.underlying29 inn | exact Src.rds Try.underlying29 inn | exact Src.reads (by assumption) Try.underlying29 inn) (by simp only [maxLen]; omega) (by omega)) ?_
                        rintro _ _ ⟨a120, c120, rfl, rfl⟩
                        rw [show Dat.cs (l.map Prod.snd) ++ [Value.int .i32 num.n] = Dat.cs ((l ++ [(key, num)]).map Prod.snd) by rw [List.map_append, Dat.cs_app]; rfl, show l.length + 1 = (l ++ [(key, num)]).length by simp]
                        refine ⟨(Or.inr (by repeat first | exact holds_nil | refine holds_cons inn ?_)), ?_⟩
                        refine TA.one0 10 (by kernel_rfl) rfl rfl rfl (by first | exact X.store rfl sz42 rfl rfl rfl pul lnn (by first | exact setM | rfl) | exact X.storeOwn rfl sz42 rfl (Nat.zero_add _).symm rfl rfl pul lnn (by first | exact setML | rfl) | exact X.storeOwn rfl sz42 rfl rfl rfl rfl pul lnn (by first | exact setML | rfl)) ?_
                        rintro _ _ rfl
                        refine ⟨(Or.inl (by kernel_rfl)), ?_⟩
                        refine TA.one0 11 (by kernel_rfl) rfl rfl rfl (by first | exact X.store rfl sz29 rfl rfl rfl pul lnn (by first | exact setM | rfl) | exact X.storeOwn rfl sz29 rfl (Nat.zero_add _).symm rfl rfl pul lnn (by first | exact setML | rfl) | exact X.storeOwn rfl sz29 rfl rfl rfl rfl pul lnn (by first | exact setML | rfl)) ?_
                        rintro _ _ rfl
                        refine ⟨(Or.inl (by kernel_rfl)), ?_⟩
                        refine TA.done (by kernel_rfl) ?_
                        refine TQ.block_normal ?_
                        refine TQ.meetF ((by first | exact (l ++ [(key, num)], (a115, c115), (a120, c120)) | exact (l.eraseIdx j0, (a141, c141), (a151, c151)) | (have := hTset; exact (l.set j0 (key, num), (ka, kc), (some ⟨gv, offv, none⟩, vc))) | exact (l, (ka, kc), (some ⟨gv, offv, none⟩, vc)) | exact (l, (ka, kc), (va, vc)))) ((by first | (have h := tput_len (q := key) (x := num) hl; have h2 := nodup_put (M := M) (q := key) (x := num) hn; rw [hTset] at h h2; exact ⟨h, h2⟩) | (have h := tput_len (q := key) (x := num) hl; have h2 := nodup_put (M := M) (q := key) (x := num) hn; rw [hTnew] at h h2; exact ⟨h, h2⟩) | (have h := tdrop_le' (q := key) hl; have h2 := nodup_drop (q := key) hn; rw [hTdrop] at h h2; exact ⟨h, h2⟩) | exact ⟨hl, hn⟩)) trivial (by (repeat first | apply Grow.refl | apply Grow.step | apply Grow.app)) ?_ ?_
                        · kernel_rfl
                        · simp only [List.cons_append, List.nil_append]
                          exact (by first | (simp only [KO, VO, hTset, List.length_set, set_fst hy0]; exact ett) | (rw [hTnew]; exact ett) | (rw [hTfull]; exact ett) | (rw [hTdrop]; exact ett) | (rw [hTdn]; exact ett) | exact ett)
                      · skip
                        refine TAo.eff rfl rfl rfl rfl (Eff.val (fun _ h => by cases h) (Y.load rfl sc29 rfl celD)) ?_
                        rintro _ _ ⟨rfl, rfl⟩
                        refine ⟨Or.inr (by repeat first | exact holds_nil | refine holds_cons inn ?_), ?_⟩
                        refine TA.as (.slice va l.length vc) (by rfl) ?_
                        refine TA.one 4 (by kernel_rfl) rfl rfl rfl rfl (X.appendS rfl el42 rfl pul rfl (by first | exact Src.owns Try.underlying42 inn | exact Src.rds Try.underlying42 inn | exact Src.reads (by assumption) Try.underlying42 inn) (by simp only [maxLen]; omega) (by omega)) ?_
                        rintro _ _ ⟨a115, c115, rfl, rfl⟩
                        rw [show Dat.cs (l.map Prod.fst) ++ [vS key] = Dat.cs ((l ++ [(key, num)]).map Prod.fst) by rw [List.map_append, Dat.cs_app]; rfl, show l.length + 1 = (l ++ [(key, num)]).length by simp]
                        refine ⟨(Or.inr (by repeat first | exact holds_nil | refine holds_cons inn ?_)), ?_⟩
                        refine TA.one 9 (by kernel_rfl) rfl rfl rfl rfl (X.appendS rfl el29 rfl pul rfl (by first | exact Src.owns Try.underlying29 inn | exact Src.rds Try.underlying29 inn | exact Src.reads (by assumption) Try.underlying29 inn) (by simp only [maxLen]; omega) (by omega)) ?_
                        rintro _ _ ⟨a120, c120, rfl, rfl⟩
                        rw [show Dat.cs (l.map Prod.snd) ++ [Value.int .i32 num.n] = Dat.cs ((l ++ [(key, num)]).map Prod.snd) by rw [List.map_append, Dat.cs_app]; rfl, show l.length + 1 = (l ++ [(key, num)]).length by simp]
                        refine ⟨(Or.inr (by repeat first | exact holds_nil | refine holds_cons inn ?_)), ?_⟩
                        refine TA.one0 10 (by kernel_rfl) rfl rfl rfl (by first | exact X.store rfl sz42 rfl rfl rfl pul lnn (by first | exact setM | rfl) | exact X.storeOwn rfl sz42 rfl (Nat.zero_add _).symm rfl rfl pul lnn (by first | exact setML | rfl) | exact X.storeOwn rfl sz42 rfl rfl rfl rfl pul lnn (by first | exact setML | rfl)) ?_
                        rintro _ _ rfl
                        refine ⟨(Or.inl (by kernel_rfl)), ?_⟩
                        refine TA.one0 11 (by kernel_rfl) rfl rfl rfl (by first | exact X.store rfl sz29 rfl rfl rfl pul lnn (by first | exact setM | rfl) | exact X.storeOwn rfl sz29 rfl (Nat.zero_add _).symm rfl rfl pul lnn (by first | exact setML | rfl) | exact X.storeOwn rfl sz29 rfl rfl rfl rfl pul lnn (by first | exact setML | rfl)) ?_
                        rintro _ _ rfl
                        refine ⟨(Or.inl (by kernel_rfl)), ?_⟩
                        refine TA.done (by kernel_rfl) ?_
                        refine TQ.block_normal ?_
                        refine TQ.meetF ((by first | exact (l ++ [(key, num)], (a115, c115), (a120, c120)) | exact (l.eraseIdx j0, (a141, c141), (a151, c151)) | (have := hTset; exact (l.set j0 (key, num), (ka, kc), (some ⟨gv, offv, none⟩, vc))) | exact (l, (ka, kc), (some ⟨gv, offv, none⟩, vc)) | exact (l, (ka, kc), (va, vc)))) ((by first | (have h := tput_len (q := key) (x := num) hl; have h2 := nodup_put (M := M) (q := key) (x := num) hn; rw [hTset] at h h2; exact ⟨h, h2⟩) | (have h := tput_len (q := key) (x := num) hl; have h2 := nodup_put (M := M) (q := key) (x := num) hn; rw [hTnew] at h h2; exact ⟨h, h2⟩) | (have h := tdrop_le' (q := key) hl; have h2 := nodup_drop (q := key) hn; rw [hTdrop] at h h2; exact ⟨h, h2⟩) | exact ⟨hl, hn⟩)) trivial (by (repeat first | apply Grow.refl | apply Grow.step | apply Grow.app)) ?_ ?_
                        · kernel_rfl
                        · simp only [List.cons_append, List.nil_append]
                          exact (by first | (simp only [KO, VO, hTset, List.length_set, set_fst hy0]; exact ett) | (rw [hTnew]; exact ett) | (rw [hTfull]; exact ett) | (rw [hTdrop]; exact ett) | (rw [hTdn]; exact ett) | exact ett)
                    · skip
                      refine TAo.eff rfl rfl rfl rfl (Eff.val (fun _ h => by cases h) (Y.load rfl sc29 rfl celD)) ?_
                      rintro _ _ ⟨rfl, rfl⟩
                      refine ⟨Or.inr (by repeat first | exact holds_nil | refine holds_cons inn ?_), ?_⟩
                      refine TA.as (.slice va l.length vc) (by rfl) ?_
                      refine TA.one 3 (by kernel_rfl) rfl rfl rfl rfl (X.lit rfl el42 rfl rfl rfl (by decide) rfl) ?_
                      rintro _ _ ⟨g114, rfl, rfl⟩
                      refine ⟨(Or.inr (by repeat first | exact holds_nil | refine holds_cons inn ?_)), ?_⟩
                      refine TA.one 4 (by kernel_rfl) rfl rfl rfl rfl (X.appendS rfl el42 rfl pul rfl (by first | exact Src.owns Try.underlying42 inn | exact Src.rds Try.underlying42 inn | exact Src.reads (by assumption) Try.underlying42 inn) (by simp only [maxLen]; omega) (by omega)) ?_
                      rintro _ _ ⟨a115, c115, rfl, rfl⟩
                      rw [show Dat.cs (l.map Prod.fst) ++ [vS key] = Dat.cs ((l ++ [(key, num)]).map Prod.fst) by rw [List.map_append, Dat.cs_app]; rfl, show l.length + 1 = (l ++ [(key, num)]).length by simp]
                      refine ⟨(Or.inr (by repeat first | exact holds_nil | refine holds_cons inn ?_)), ?_⟩
                      refine TA.one 9 (by kernel_rfl) rfl rfl rfl rfl (X.appendS rfl el29 rfl pul rfl (by first | exact Src.owns Try.underlying29 inn | exact Src.rds Try.underlying29 inn | exact Src.reads (by assumption) Try.underlying29 inn) (by simp only [maxLen]; omega) (by omega)) ?_
                      rintro _ _ ⟨a120, c120, rfl, rfl⟩
                      rw [show Dat.cs (l.map Prod.snd) ++ [Value.int .i32 num.n] = Dat.cs ((l ++ [(key, num)]).map Prod.snd) by rw [List.map_append, Dat.cs_app]; rfl, show l.length + 1 = (l ++ [(key, num)]).length by simp]
                      refine ⟨(Or.inr (by repeat first | exact holds_nil | refine holds_cons inn ?_)), ?_⟩
                      refine TA.one0 10 (by kernel_rfl) rfl rfl rfl (by first | exact X.store rfl sz42 rfl rfl rfl pul lnn (by first | exact setM | rfl) | exact X.storeOwn rfl sz42 rfl (Nat.zero_add _).symm rfl rfl pul lnn (by first | exact setML | rfl) | exact X.storeOwn rfl sz42 rfl rfl rfl rfl pul lnn (by first | exact setML | rfl)) ?_
                      rintro _ _ rfl
                      refine ⟨(Or.inl (by kernel_rfl)), ?_⟩
                      refine TA.one0 11 (by kernel_rfl) rfl rfl rfl (by first | exact X.store rfl sz29 rfl rfl rfl pul lnn (by first | exact setM | rfl) | exact X.storeOwn rfl sz29 rfl (Nat.zero_add _).symm rfl rfl pul lnn (by first | exact setML | rfl) | exact X.storeOwn rfl sz29 rfl rfl rfl rfl pul lnn (by first | exact setML | rfl)) ?_
                      rintro _ _ rfl
                      refine ⟨(Or.inl (by kernel_rfl)), ?_⟩
                      refine TA.done (by kernel_rfl) ?_
                      refine TQ.block_normal ?_
                      refine TQ.meetF ((by first | exact (l ++ [(key, num)], (a115, c115), (a120, c120)) | exact (l.eraseIdx j0, (a141, c141), (a151, c151)) | (have := hTset; exact (l.set j0 (key, num), (ka, kc), (some ⟨gv, offv, none⟩, vc))) | exact (l, (ka, kc), (some ⟨gv, offv, none⟩, vc)) | exact (l, (ka, kc), (va, vc)))) ((by first | (have h := tput_len (q := key) (x := num) hl; have h2 := nodup_put (M := M) (q := key) (x := num) hn; rw [hTset] at h h2; exact ⟨h, h2⟩) | (have h := tput_len (q := key) (x := num) hl; have h2 := nodup_put (M := M) (q := key) (x := num) hn; rw [hTnew] at h h2; exact ⟨h, h2⟩) | (have h := tdrop_le' (q := key) hl; have h2 := nodup_drop (q := key) hn; rw [hTdrop] at h h2; exact ⟨h, h2⟩) | exact ⟨hl, hn⟩)) trivial (by (repeat first | apply Grow.refl | apply Grow.step | apply Grow.app)) ?_ ?_
                      · kernel_rfl
                      · simp only [List.cons_append, List.nil_append]
                        exact (by first | (simp only [KO, VO, hTset, List.length_set, set_fst hy0]; exact ett) | (rw [hTnew]; exact ett) | (rw [hTfull]; exact ett) | (rw [hTdrop]; exact ett) | (rw [hTdn]; exact ett) | exact ett)
              · try simp only [decide_eq_true_eq, decide_eq_false_iff_not, Bool.not_eq_true', Bool.not_eq_false', Bool.and_eq_true, Bool.or_eq_true, Nat.not_lt, Nat.not_le, beq_iff_eq, bne_iff_ne] at c8
                have hTfull : tput M l key num = (l, false) := tput_full hF (by omega)
                refine TC.skip ?_
                refine TQ.block_normal ?_
                refine TQ.meetF ((by first | exact (l ++ [(key, num)], (a115, c115), (a120, c120)) | exact (l.eraseIdx j0, (a141, c141), (a151, c151)) | (have := hTset; exact (l.set j0 (key, num), (ka, kc), (some ⟨gv, offv, none⟩, vc))) | exact (l, (ka, kc), (some ⟨gv, offv, none⟩, vc)) | exact (l, (ka, kc), (va, vc)))) ((by first | (have h := tput_len (q := key) (x := num) hl; have h2 := nodup_put (M := M) (q := key) (x := num) hn; rw [hTset] at h h2; exact ⟨h, h2⟩) | (have h := tput_len (q := key) (x := num) hl; have h2 := nodup_put (M := M) (q := key) (x := num) hn; rw [hTnew] at h h2; exact ⟨h, h2⟩) | (have h := tdrop_le' (q := key) hl; have h2 := nodup_drop (q := key) hn; rw [hTdrop] at h h2; exact ⟨h, h2⟩) | exact ⟨hl, hn⟩)) trivial (by (repeat first | apply Grow.refl | apply Grow.step | apply Grow.app)) ?_ ?_
                · kernel_rfl
                · simp only [List.cons_append, List.nil_append]
                  exact (by first | (simp only [KO, VO, hTset, List.length_set, set_fst hy0]; exact ett) | (rw [hTnew]; exact ett) | (rw [hTfull]; exact ett) | (rw [hTdrop]; exact ett) | (rw [hTdn]; exact ett) | exact ett)
          · try simp only [decide_eq_true_eq, decide_eq_false_iff_not, Bool.not_eq_true', Bool.not_eq_false', Bool.and_eq_true, Bool.or_eq_true, Nat.not_lt, Nat.not_le, beq_iff_eq, bne_iff_ne] at c5
            refine TC.seq ?_
            refine TC.region ?_
            refine TL.val rfl rfl rfl (Y.bin rfl rfl rfl (br_eqI (n := 2))) ?_
            refine TL.val rfl rfl rfl (Y.assign rfl rfl) ?_
            refine TL.nil ?_
            refine TQ.next ?_
            refine TC.cond rfl (fun c9 => ?_) (fun c9 => ?_)
            · try simp only [decide_eq_true_eq, decide_eq_false_iff_not, Bool.not_eq_true', Bool.not_eq_false', Bool.and_eq_true, Bool.or_eq_true, Nat.not_lt, Nat.not_le, beq_iff_eq, bne_iff_ne] at c9
              refine TC.seq ?_
              refine TC.seq ?_
              refine TC.region ?_
              refine TL.val rfl rfl rfl (Y.move rfl rfl) ?_
              refine TL.val rfl rfl rfl (by first | exact Y.fieldAddrJ rfl fo44_1 rfl nqq | exact Y.fieldAddr rfl fo44_1 rfl nqq) ?_
              refine TL.val rfl rfl rfl (Y.load rfl sc9 rfl celD) ?_
              refine TL.as (vS key) (by rfl) ?_
              refine TL.eff rfl rfl rfl (X.call rfl Try.func21 (by kernel_rfl) rfl rfl (Fn.preE (by repeat first | (with_reducible apply Ent.refl) | (apply Ent.cons; case h => first | (with_reducible (repeat first | apply Pull.here | apply Pull.there); done) | (repeat first | apply Pull.here | apply Pull.there))) (tbs.Drop_fn _ _ l key _))) ?_
              rintro _ _ ⟨rfl, rfl⟩
              refine TL.val rfl rfl rfl (Y.move rfl rfl) ?_
              refine TL.val rfl rfl rfl (Y.bin rfl rfl rfl (br_geI (n := 0))) ?_
              refine TL.as (.bool r.isSome) (by (rw [← isS])) ?_
              refine TL.val rfl rfl rfl (Y.neBool rfl Try.underlying4 rfl rfl) ?_
              refine TL.is false (by (rw [drop_fit hr]; simp)) ?_
              refine TL.nil ?_
              refine TQ.next ?_
              refine TC.cond_f rfl ?_
              refine TC.skip ?_
              refine TQ.next ?_
              refine TC.seq ?_
              refine TC.region ?_
              refine TL.val rfl rfl rfl (Y.move rfl rfl) ?_
              refine TL.val rfl rfl rfl (Y.bin rfl rfl rfl (br_geI (n := 0))) ?_
              refine TL.as (.bool r.isSome) (by (rw [← isS])) ?_
              refine TL.nil ?_
              refine TQ.next ?_
              refine TC.cond rfl (fun c11 => ?_) (fun c11 => ?_)
              · try simp only [decide_eq_true_eq, decide_eq_false_iff_not, Bool.not_eq_true', Bool.not_eq_false', Bool.and_eq_true, Bool.or_eq_true, Nat.not_lt, Nat.not_le, beq_iff_eq, bne_iff_ne] at c11
                obtain ⟨j0, rfl⟩ := Option.isSome_iff_exists.1 c11
                obtain ⟨hj0, y0, hy0, -⟩ := Fi_some hr.symm
                have hTdrop : tdrop l key = (l.eraseIdx j0, true) := tdrop_some hr.symm
                rw [show vI (iv (some j0)) = vN j0 from rfl]
                refine TC.know (owns_cap (e := 9) (n := l.length) (a := ka) (cap := kc) inn) ?_
                rintro ⟨hk1, hk2, -⟩
                refine TC.know (owns_cap (e := 21) (n := l.length) (a := va) (cap := vc) inn) ?_
                rintro ⟨hv1, hv2, -⟩
                refine TC.seq ?_
                refine TC.draws 10 [SA.blk b8 #[.slice ka l.length kc] 42] (by kernel_rfl) (by kernel_rfl) (by repeat first | exact holds_nil | refine holds_cons inn ?_) ?_
                refine TA.take 1 rfl rfl rfl rfl (by kernel_rfl) (by kernel_rfl) (by kernel_rfl) rfl (by kernel_rfl) (by kernel_rfl) (fun _ _ _ h => h) (Y.load rfl sc42 rfl celD) ?_
                refine TA.as (.slice ka l.length kc) (by rfl) ?_
                refine TA.take 2 rfl rfl rfl rfl (by kernel_rfl) (by kernel_rfl) (by kernel_rfl) rfl (by kernel_rfl) (by kernel_rfl) (fun _ _ _ h => h) (Y.move rfl rfl) ?_
                refine TA.take 3 rfl rfl rfl rfl (by kernel_rfl) (by kernel_rfl) (by kernel_rfl) rfl (by kernel_rfl) (by kernel_rfl) (fun _ _ _ h => h) (Y.sliceHi2 rfl Try.underlying42 sz9 rfl rfl (by omega)) ?_
                refine TA.take 5 rfl rfl rfl rfl (by kernel_rfl) (by kernel_rfl) (by kernel_rfl) rfl (by kernel_rfl) (by kernel_rfl) (fun _ _ _ h => h) (Y.load rfl sc42 rfl celD) ?_
                refine TA.as (.slice ka l.length kc) (by rfl) ?_
                refine TA.take 6 rfl rfl rfl rfl (by kernel_rfl) (by kernel_rfl) (by kernel_rfl) rfl (by kernel_rfl) (by kernel_rfl) (fun _ _ _ h => h) (Y.move rfl rfl) ?_
                refine TA.take 7 rfl rfl rfl rfl (by kernel_rfl) (by kernel_rfl) (by kernel_rfl) rfl (by kernel_rfl) (by kernel_rfl) (fun _ _ _ h => h) (Y.bin rfl rfl rfl (br_addN (n := 1) (by omega))) ?_
                refine TA.take 8 rfl rfl rfl rfl (by kernel_rfl) (by kernel_rfl) (by kernel_rfl) rfl (by kernel_rfl) (by kernel_rfl) (fun _ _ _ h => h) (Y.sliceLo rfl Try.underlying42 sz9 rfl rfl (by omega)) ?_
                refine TA.one 0 (by kernel_rfl) rfl rfl rfl rfl (X.lit rfl el42 rfl rfl rfl (by decide) rfl) ?_
                rintro _ _ ⟨g132, rfl, rfl⟩
                refine ⟨(Or.inr (by repeat first | exact holds_nil | refine holds_cons inn ?_)), ?_⟩
                refine TA.one 4 (by kernel_rfl) rfl rfl rfl rfl (X.appendS rfl el42 rfl pul rfl (Src.reads (Reads.take (k := j0) (n := l.length) (Reads.owns (cs := Dat.cs (l.map Prod.fst))) (by omega)) Try.underlying42 inn) (by simp only [maxLen]; omega) (by omega)) ?_
                rintro _ _ ⟨a136, c136, rfl, rfl⟩
                refine ⟨(Or.inr (by repeat first | exact holds_nil | refine holds_cons inn ?_)), ?_⟩
                refine TA.one 9 (by kernel_rfl) rfl rfl rfl rfl (X.appendS rfl el42 rfl pul rfl (Src.cut (Reads.owns (cs := Dat.cs (l.map Prod.fst))) Try.underlying42 inn (by omega) (by omega)) (by simp only [maxLen]; omega) (by omega)) ?_
                rintro _ _ ⟨a141, c141, rfl, rfl⟩
                rw [cut_fst Prod.fst rfl l j0 hj0, erase_len hj0]
                refine ⟨(Or.inr (by repeat first | exact holds_nil | refine holds_cons inn ?_)), ?_⟩
                refine TA.one0 10 (by kernel_rfl) rfl rfl rfl (by first | exact X.store rfl sz42 rfl rfl rfl pul lnn (by first | exact setM | rfl) | exact X.storeOwn rfl sz42 rfl (Nat.zero_add _).symm rfl rfl pul lnn (by first | exact setML | rfl) | exact X.storeOwn rfl sz42 rfl rfl rfl rfl pul lnn (by first | exact setML | rfl)) ?_
                rintro _ _ rfl
                refine ⟨(Or.inl (by kernel_rfl)), ?_⟩
                refine TA.done (by kernel_rfl) ?_
                refine TQ.next ?_
                refine TC.draws 10 [SA.blk b9 #[.slice va l.length vc] 29] (by kernel_rfl) (by kernel_rfl) (by repeat first | exact holds_nil | refine holds_cons inn ?_) ?_
                refine TA.take 1 rfl rfl rfl rfl (by kernel_rfl) (by kernel_rfl) (by kernel_rfl) rfl (by kernel_rfl) (by kernel_rfl) (fun _ _ _ h => h) (Y.load rfl sc29 rfl celD) ?_
                refine TA.as (.slice va l.length vc) (by rfl) ?_
                refine TA.take 2 rfl rfl rfl rfl (by kernel_rfl) (by kernel_rfl) (by kernel_rfl) rfl (by kernel_rfl) (by kernel_rfl) (fun _ _ _ h => h) (Y.move rfl rfl) ?_
                refine TA.take 3 rfl rfl rfl rfl (by kernel_rfl) (by kernel_rfl) (by kernel_rfl) rfl (by kernel_rfl) (by kernel_rfl) (fun _ _ _ h => h) (Y.sliceHi2 rfl Try.underlying29 sz21 rfl rfl (by omega)) ?_
                refine TA.take 5 rfl rfl rfl rfl (by kernel_rfl) (by kernel_rfl) (by kernel_rfl) rfl (by kernel_rfl) (by kernel_rfl) (fun _ _ _ h => h) (Y.load rfl sc29 rfl celD) ?_
                refine TA.as (.slice va l.length vc) (by rfl) ?_
                refine TA.take 6 rfl rfl rfl rfl (by kernel_rfl) (by kernel_rfl) (by kernel_rfl) rfl (by kernel_rfl) (by kernel_rfl) (fun _ _ _ h => h) (Y.move rfl rfl) ?_
                refine TA.take 7 rfl rfl rfl rfl (by kernel_rfl) (by kernel_rfl) (by kernel_rfl) rfl (by kernel_rfl) (by kernel_rfl) (fun _ _ _ h => h) (Y.bin rfl rfl rfl (br_addN (n := 1) (by omega))) ?_
                refine TA.take 8 rfl rfl rfl rfl (by kernel_rfl) (by kernel_rfl) (by kernel_rfl) rfl (by kernel_rfl) (by kernel_rfl) (fun _ _ _ h => h) (Y.sliceLo rfl Try.underlying29 sz21 rfl rfl (by omega)) ?_
                refine TA.one 0 (by kernel_rfl) rfl rfl rfl rfl (X.lit rfl el29 rfl rfl rfl (by decide) rfl) ?_
                rintro _ _ ⟨g142, rfl, rfl⟩
                refine ⟨(Or.inr (by repeat first | exact holds_nil | refine holds_cons inn ?_)), ?_⟩
                refine TA.one 4 (by kernel_rfl) rfl rfl rfl rfl (X.appendS rfl el29 rfl pul rfl (Src.reads (Reads.take (k := j0) (n := l.length) (Reads.owns (cs := Dat.cs (l.map Prod.snd))) (by omega)) Try.underlying29 inn) (by simp only [maxLen]; omega) (by omega)) ?_
                rintro _ _ ⟨a146, c146, rfl, rfl⟩
                refine ⟨(Or.inr (by repeat first | exact holds_nil | refine holds_cons inn ?_)), ?_⟩
                refine TA.one 9 (by kernel_rfl) rfl rfl rfl rfl (X.appendS rfl el29 rfl pul rfl (Src.cut (Reads.owns (cs := Dat.cs (l.map Prod.snd))) Try.underlying29 inn (by omega) (by omega)) (by simp only [maxLen]; omega) (by omega)) ?_
                rintro _ _ ⟨a151, c151, rfl, rfl⟩
                rw [cut_fst Prod.snd rfl l j0 hj0, erase_len hj0]
                refine ⟨(Or.inr (by repeat first | exact holds_nil | refine holds_cons inn ?_)), ?_⟩
                refine TA.one0 10 (by kernel_rfl) rfl rfl rfl (by first | exact X.store rfl sz29 rfl rfl rfl pul lnn (by first | exact setM | rfl) | exact X.storeOwn rfl sz29 rfl (Nat.zero_add _).symm rfl rfl pul lnn (by first | exact setML | rfl) | exact X.storeOwn rfl sz29 rfl rfl rfl rfl pul lnn (by first | exact setML | rfl)) ?_
                rintro _ _ rfl
                refine ⟨(Or.inl (by kernel_rfl)), ?_⟩
                refine TA.done (by kernel_rfl) ?_
                refine TQ.block_normal ?_
                refine TQ.meetF ((by first | exact (l ++ [(key, num)], (a115, c115), (a120, c120)) | exact (l.eraseIdx j0, (a141, c141), (a151, c151)) | (have := hTset; exact (l.set j0 (key, num), (ka, kc), (some ⟨gv, offv, none⟩, vc))) | exact (l, (ka, kc), (some ⟨gv, offv, none⟩, vc)) | exact (l, (ka, kc), (va, vc)))) ((by first | (have h := tput_len (q := key) (x := num) hl; have h2 := nodup_put (M := M) (q := key) (x := num) hn; rw [hTset] at h h2; exact ⟨h, h2⟩) | (have h := tput_len (q := key) (x := num) hl; have h2 := nodup_put (M := M) (q := key) (x := num) hn; rw [hTnew] at h h2; exact ⟨h, h2⟩) | (have h := tdrop_le' (q := key) hl; have h2 := nodup_drop (q := key) hn; rw [hTdrop] at h h2; exact ⟨h, h2⟩) | exact ⟨hl, hn⟩)) trivial (by (repeat first | apply Grow.refl | apply Grow.step | apply Grow.app)) ?_ ?_
                · kernel_rfl
                · simp only [List.cons_append, List.nil_append]
                  exact (by first | (simp only [KO, VO, hTset, List.length_set, set_fst hy0]; exact ett) | (rw [hTnew]; exact ett) | (rw [hTfull]; exact ett) | (rw [hTdrop]; exact ett) | (rw [hTdn]; exact ett) | exact ett)
              · try simp only [decide_eq_true_eq, decide_eq_false_iff_not, Bool.not_eq_true', Bool.not_eq_false', Bool.and_eq_true, Bool.or_eq_true, Nat.not_lt, Nat.not_le, beq_iff_eq, bne_iff_ne] at c11
                have hrn : r = none := by cases r with
                  | none => rfl
                  | some j => simp at c11
                have hTdn : tdrop l key = (l, false) := tdrop_none (by rw [← hr, hrn])
                refine TC.skip ?_
                refine TQ.block_normal ?_
                refine TQ.meetF ((by first | exact (l ++ [(key, num)], (a115, c115), (a120, c120)) | exact (l.eraseIdx j0, (a141, c141), (a151, c151)) | (have := hTset; exact (l.set j0 (key, num), (ka, kc), (some ⟨gv, offv, none⟩, vc))) | exact (l, (ka, kc), (some ⟨gv, offv, none⟩, vc)) | exact (l, (ka, kc), (va, vc)))) ((by first | (have h := tput_len (q := key) (x := num) hl; have h2 := nodup_put (M := M) (q := key) (x := num) hn; rw [hTset] at h h2; exact ⟨h, h2⟩) | (have h := tput_len (q := key) (x := num) hl; have h2 := nodup_put (M := M) (q := key) (x := num) hn; rw [hTnew] at h h2; exact ⟨h, h2⟩) | (have h := tdrop_le' (q := key) hl; have h2 := nodup_drop (q := key) hn; rw [hTdrop] at h h2; exact ⟨h, h2⟩) | exact ⟨hl, hn⟩)) trivial (by (repeat first | apply Grow.refl | apply Grow.step | apply Grow.app)) ?_ ?_
                · kernel_rfl
                · simp only [List.cons_append, List.nil_append]
                  exact (by first | (simp only [KO, VO, hTset, List.length_set, set_fst hy0]; exact ett) | (rw [hTnew]; exact ett) | (rw [hTfull]; exact ett) | (rw [hTdrop]; exact ett) | (rw [hTdn]; exact ett) | exact ett)
            · try simp only [decide_eq_true_eq, decide_eq_false_iff_not, Bool.not_eq_true', Bool.not_eq_false', Bool.and_eq_true, Bool.or_eq_true, Nat.not_lt, Nat.not_le, beq_iff_eq, bne_iff_ne] at c9
              refine TC.seq ?_
              refine TC.region ?_
              refine TL.val rfl rfl rfl (Y.move rfl rfl) ?_
              refine TL.val rfl rfl rfl (by first | exact Y.fieldAddrJ rfl fo44_1 rfl nqq | exact Y.fieldAddr rfl fo44_1 rfl nqq) ?_
              refine TL.val rfl rfl rfl (Y.load rfl sc9 rfl celD) ?_
              refine TL.as (vS key) (by rfl) ?_
              refine TL.eff rfl rfl rfl (X.call rfl Try.func22 (by kernel_rfl) rfl rfl (Fn.preE (by repeat first | (with_reducible apply Ent.refl) | (apply Ent.cons; case h => first | (with_reducible (repeat first | apply Pull.here | apply Pull.there); done) | (repeat first | apply Pull.here | apply Pull.there))) (tbs.Get_fn _ _ l key _))) ?_
              rintro _ _ ⟨rfl, rfl⟩
              obtain ⟨⟨v, ok⟩, hv⟩ : ∃ p, tget (⟨0⟩ : J32) l key = p := ⟨_, rfl⟩
              rw [hv]
              obtain ⟨hok, hv0, hvj⟩ := get_facts hr hv
              refine TL.val rfl rfl rfl (Y.move rfl rfl) ?_
              refine TL.val rfl rfl rfl (Y.extract rfl rfl rfl) ?_
              refine TL.as (.int .i32 v.n) (by rfl) ?_
              refine TL.val rfl rfl rfl (Y.extract rfl rfl rfl) ?_
              refine TL.as (.bool ok) (by rfl) ?_
              refine TL.val rfl rfl rfl (Y.assign rfl rfl) ?_
              refine TL.val rfl rfl rfl (Y.assign rfl rfl) ?_
              refine TL.nil ?_
              refine TQ.next ?_
              refine TC.seq ?_
              refine TC.know (φ := 0 < l.length → ∃ g off, va = some ⟨g, off, none⟩) (fun w hw hn => owns_some (e := 21) (n := l.length) (cap := vc) (a := va) inn hn w hw) ?_
              intro hva
              refine TC.region ?_
              refine TL.val rfl rfl rfl (Y.move rfl rfl) ?_
              refine TL.val rfl rfl rfl (Y.move rfl rfl) ?_
              refine TL.val rfl rfl rfl (Y.bin rfl rfl rfl (br_geI (n := 0))) ?_
              refine TL.as (.bool r.isSome) (by (rw [← isS])) ?_
              refine TL.val rfl rfl rfl (Y.neBool rfl Try.underlying4 rfl rfl) ?_
              refine TL.is false (by (rw [hok]; simp)) ?_
              refine TL.val rfl rfl rfl (Y.move rfl rfl) ?_
              refine TL.valG rfl rfl rfl (Y.move rfl rfl) ?_
              refine TL.valG rfl rfl rfl (Y.move rfl rfl) ?_
              refine TL.case (fun g22_6 => ?_) (fun g22_6 => ?_)
              · try simp only [decide_eq_true_eq, decide_eq_false_iff_not, Bool.not_eq_true', Bool.not_eq_false', Nat.not_lt, Nat.not_le, beq_iff_eq, bne_iff_ne] at g22_6
                try (rw [hok] at g22_6; obtain ⟨j0, hj0⟩ := Option.isSome_iff_exists.1 g22_6; obtain ⟨hjl, hjv⟩ := hvj j0 hj0; obtain ⟨gv, offv, rfl⟩ := hva (by omega))
                refine TL.valG rfl rfl rfl (Y.move rfl rfl) ?_
                refine TL.valG rfl rfl rfl (Y.load rfl sc29 rfl celD) ?_
                refine TL.as (.slice (some ⟨gv, offv, none⟩) l.length vc) (by rfl) ?_
                refine TL.valG rfl rfl rfl (Y.move rfl rfl) ?_
                refine TL.as (vN j0) (by (rw [hj0]; rfl)) ?_
                refine TL.valG rfl rfl rfl (by first | exact Y.indexSlB rfl sl29 rfl rfl (by omega) nqq | exact Y.indexSl rfl sl29 rfl rfl (by omega) nqq) ?_
                refine TL.valG rfl rfl rfl (Y.load rfl sc21 rfl (Cel.atS (l := l.map Prod.snd) Reads.owns inn hjv rfl)) ?_
                refine TL.as (.int .i32 v.n) (by rfl) ?_
                refine TL.valG rfl rfl rfl (Y.bin rfl rfl rfl (br_neI)) ?_
                refine TL.is false (by (simp)) ?_
                refine TL.valG rfl rfl rfl (Y.pick_t rfl rfl rfl) ?_
                refine TL.val rfl rfl rfl (Y.pick_f rfl rfl rfl) ?_
                refine TL.val rfl rfl rfl (Y.move rfl rfl) ?_
                refine TL.valG rfl rfl rfl (Y.move rfl rfl) ?_
                refine TL.valG rfl rfl rfl (Y.not rfl rfl) ?_
                refine TL.valG rfl rfl rfl (Y.move rfl rfl) ?_
                refine TL.case (fun g22_18 => ?_) (fun g22_18 => ?_)
                · try simp only [decide_eq_true_eq, decide_eq_false_iff_not, Bool.not_eq_true', Bool.not_eq_false', Nat.not_lt, Nat.not_le, beq_iff_eq, bne_iff_ne] at g22_18
                  refine TL.valG rfl rfl rfl (Y.move rfl rfl) ?_
                  refine TL.valG rfl rfl rfl (Y.bin rfl rfl rfl (br_neI (n := 0))) ?_
                  refine TL.is false (by (rw [hv0 (by simpa using g22_18)]; simp)) ?_
                  refine TL.valG rfl rfl rfl (Y.pick_t rfl rfl rfl) ?_
                  refine TL.val rfl rfl rfl (Y.pick_f rfl rfl rfl) ?_
                  refine TL.nil ?_
                  refine TQ.next ?_
                  refine TC.cond_f rfl ?_
                  refine TC.skip ?_
                  refine TQ.block_normal ?_
                  refine TQ.meetF ((by first | exact (l ++ [(key, num)], (a115, c115), (a120, c120)) | exact (l.eraseIdx j0, (a141, c141), (a151, c151)) | (have := hTset; exact (l.set j0 (key, num), (ka, kc), (some ⟨gv, offv, none⟩, vc))) | exact (l, (ka, kc), (some ⟨gv, offv, none⟩, vc)) | exact (l, (ka, kc), (va, vc)))) ((by first | (have h := tput_len (q := key) (x := num) hl; have h2 := nodup_put (M := M) (q := key) (x := num) hn; rw [hTset] at h h2; exact ⟨h, h2⟩) | (have h := tput_len (q := key) (x := num) hl; have h2 := nodup_put (M := M) (q := key) (x := num) hn; rw [hTnew] at h h2; exact ⟨h, h2⟩) | (have h := tdrop_le' (q := key) hl; have h2 := nodup_drop (q := key) hn; rw [hTdrop] at h h2; exact ⟨h, h2⟩) | exact ⟨hl, hn⟩)) trivial (by (repeat first | apply Grow.refl | apply Grow.step | apply Grow.app)) ?_ ?_
                  · kernel_rfl
                  · simp only [List.cons_append, List.nil_append]
                    exact (by first | (simp only [KO, VO, hTset, List.length_set, set_fst hy0]; exact ett) | (rw [hTnew]; exact ett) | (rw [hTfull]; exact ett) | (rw [hTdrop]; exact ett) | (rw [hTdn]; exact ett) | exact ett)
                · try simp only [decide_eq_true_eq, decide_eq_false_iff_not, Bool.not_eq_true', Bool.not_eq_false', Nat.not_lt, Nat.not_le, beq_iff_eq, bne_iff_ne] at g22_18
                  refine TL.not rfl rfl rfl ?_
                  refine TL.not rfl rfl rfl ?_
                  refine TL.valG rfl rfl rfl (Y.pick_f rfl rfl rfl) ?_
                  refine TL.val rfl rfl rfl (Y.pick_f rfl rfl rfl) ?_
                  refine TL.nil ?_
                  refine TQ.next ?_
                  refine TC.cond_f rfl ?_
                  refine TC.skip ?_
                  refine TQ.block_normal ?_
                  refine TQ.meetF ((by first | exact (l ++ [(key, num)], (a115, c115), (a120, c120)) | exact (l.eraseIdx j0, (a141, c141), (a151, c151)) | (have := hTset; exact (l.set j0 (key, num), (ka, kc), (some ⟨gv, offv, none⟩, vc))) | exact (l, (ka, kc), (some ⟨gv, offv, none⟩, vc)) | exact (l, (ka, kc), (va, vc)))) ((by first | (have h := tput_len (q := key) (x := num) hl; have h2 := nodup_put (M := M) (q := key) (x := num) hn; rw [hTset] at h h2; exact ⟨h, h2⟩) | (have h := tput_len (q := key) (x := num) hl; have h2 := nodup_put (M := M) (q := key) (x := num) hn; rw [hTnew] at h h2; exact ⟨h, h2⟩) | (have h := tdrop_le' (q := key) hl; have h2 := nodup_drop (q := key) hn; rw [hTdrop] at h h2; exact ⟨h, h2⟩) | exact ⟨hl, hn⟩)) trivial (by (repeat first | apply Grow.refl | apply Grow.step | apply Grow.app)) ?_ ?_
                  · kernel_rfl
                  · simp only [List.cons_append, List.nil_append]
                    exact (by first | (simp only [KO, VO, hTset, List.length_set, set_fst hy0]; exact ett) | (rw [hTnew]; exact ett) | (rw [hTfull]; exact ett) | (rw [hTdrop]; exact ett) | (rw [hTdn]; exact ett) | exact ett)
              · try simp only [decide_eq_true_eq, decide_eq_false_iff_not, Bool.not_eq_true', Bool.not_eq_false', Nat.not_lt, Nat.not_le, beq_iff_eq, bne_iff_ne] at g22_6
                try (rw [hok] at g22_6; obtain ⟨j0, hj0⟩ := Option.isSome_iff_exists.1 g22_6; obtain ⟨hjl, hjv⟩ := hvj j0 hj0; obtain ⟨gv, offv, rfl⟩ := hva (by omega))
                refine TL.not rfl rfl rfl ?_
                refine TL.not rfl rfl rfl ?_
                refine TL.not rfl rfl rfl ?_
                refine TL.not rfl rfl rfl ?_
                refine TL.not rfl rfl rfl ?_
                refine TL.not rfl rfl rfl ?_
                refine TL.valG rfl rfl rfl (Y.pick_f rfl rfl rfl) ?_
                refine TL.val rfl rfl rfl (Y.pick_f rfl rfl rfl) ?_
                refine TL.val rfl rfl rfl (Y.move rfl rfl) ?_
                refine TL.valG rfl rfl rfl (Y.move rfl rfl) ?_
                refine TL.valG rfl rfl rfl (Y.not rfl rfl) ?_
                refine TL.valG rfl rfl rfl (Y.move rfl rfl) ?_
                refine TL.case (fun g22_18 => ?_) (fun g22_18 => ?_)
                · try simp only [decide_eq_true_eq, decide_eq_false_iff_not, Bool.not_eq_true', Bool.not_eq_false', Nat.not_lt, Nat.not_le, beq_iff_eq, bne_iff_ne] at g22_18
                  refine TL.valG rfl rfl rfl (Y.move rfl rfl) ?_
                  refine TL.valG rfl rfl rfl (Y.bin rfl rfl rfl (br_neI (n := 0))) ?_
                  refine TL.is false (by (rw [hv0 (by simpa using g22_18)]; simp)) ?_
                  refine TL.valG rfl rfl rfl (Y.pick_t rfl rfl rfl) ?_
                  refine TL.val rfl rfl rfl (Y.pick_f rfl rfl rfl) ?_
                  refine TL.nil ?_
                  refine TQ.next ?_
                  refine TC.cond_f rfl ?_
                  refine TC.skip ?_
                  refine TQ.block_normal ?_
                  refine TQ.meetF ((by first | exact (l ++ [(key, num)], (a115, c115), (a120, c120)) | exact (l.eraseIdx j0, (a141, c141), (a151, c151)) | (have := hTset; exact (l.set j0 (key, num), (ka, kc), (some ⟨gv, offv, none⟩, vc))) | exact (l, (ka, kc), (some ⟨gv, offv, none⟩, vc)) | exact (l, (ka, kc), (va, vc)))) ((by first | (have h := tput_len (q := key) (x := num) hl; have h2 := nodup_put (M := M) (q := key) (x := num) hn; rw [hTset] at h h2; exact ⟨h, h2⟩) | (have h := tput_len (q := key) (x := num) hl; have h2 := nodup_put (M := M) (q := key) (x := num) hn; rw [hTnew] at h h2; exact ⟨h, h2⟩) | (have h := tdrop_le' (q := key) hl; have h2 := nodup_drop (q := key) hn; rw [hTdrop] at h h2; exact ⟨h, h2⟩) | exact ⟨hl, hn⟩)) trivial (by (repeat first | apply Grow.refl | apply Grow.step | apply Grow.app)) ?_ ?_
                  · kernel_rfl
                  · simp only [List.cons_append, List.nil_append]
                    exact (by first | (simp only [KO, VO, hTset, List.length_set, set_fst hy0]; exact ett) | (rw [hTnew]; exact ett) | (rw [hTfull]; exact ett) | (rw [hTdrop]; exact ett) | (rw [hTdn]; exact ett) | exact ett)
                · try simp only [decide_eq_true_eq, decide_eq_false_iff_not, Bool.not_eq_true', Bool.not_eq_false', Nat.not_lt, Nat.not_le, beq_iff_eq, bne_iff_ne] at g22_18
                  refine TL.not rfl rfl rfl ?_
                  refine TL.not rfl rfl rfl ?_
                  refine TL.valG rfl rfl rfl (Y.pick_f rfl rfl rfl) ?_
                  refine TL.val rfl rfl rfl (Y.pick_f rfl rfl rfl) ?_
                  refine TL.nil ?_
                  refine TQ.next ?_
                  refine TC.cond_f rfl ?_
                  refine TC.skip ?_
                  refine TQ.block_normal ?_
                  refine TQ.meetF ((by first | exact (l ++ [(key, num)], (a115, c115), (a120, c120)) | exact (l.eraseIdx j0, (a141, c141), (a151, c151)) | (have := hTset; exact (l.set j0 (key, num), (ka, kc), (some ⟨gv, offv, none⟩, vc))) | exact (l, (ka, kc), (some ⟨gv, offv, none⟩, vc)) | exact (l, (ka, kc), (va, vc)))) ((by first | (have h := tput_len (q := key) (x := num) hl; have h2 := nodup_put (M := M) (q := key) (x := num) hn; rw [hTset] at h h2; exact ⟨h, h2⟩) | (have h := tput_len (q := key) (x := num) hl; have h2 := nodup_put (M := M) (q := key) (x := num) hn; rw [hTnew] at h h2; exact ⟨h, h2⟩) | (have h := tdrop_le' (q := key) hl; have h2 := nodup_drop (q := key) hn; rw [hTdrop] at h h2; exact ⟨h, h2⟩) | exact ⟨hl, hn⟩)) trivial (by (repeat first | apply Grow.refl | apply Grow.step | apply Grow.app)) ?_ ?_
                  · kernel_rfl
                  · simp only [List.cons_append, List.nil_append]
                    exact (by first | (simp only [KO, VO, hTset, List.length_set, set_fst hy0]; exact ett) | (rw [hTnew]; exact ett) | (rw [hTfull]; exact ett) | (rw [hTdrop]; exact ett) | (rw [hTdn]; exact ett) | exact ett)
        · rintro ⟨l, ⟨ka, kc⟩, ⟨va, vc⟩⟩ ⟨hl, hn⟩ F' L' rfl hL'
          simp only [List.cons_append, List.nil_append] at hL'
          subst hL'
          simp only at hl hn ⊢
          refine TC.seq ?_
          refine TC.draws 5 [SA.blk b8 #[.slice ka l.length kc] 42] (by kernel_rfl) (by kernel_rfl) (by repeat first | exact holds_nil | refine holds_cons inn ?_) ?_
          refine TA.take 0 rfl rfl rfl rfl (by kernel_rfl) (by kernel_rfl) (by kernel_rfl) rfl (by kernel_rfl) (by kernel_rfl) (fun _ _ _ h => h) (Y.move rfl rfl) ?_
          refine TA.take 2 rfl rfl rfl rfl (by kernel_rfl) (by kernel_rfl) (by kernel_rfl) rfl (by kernel_rfl) (by kernel_rfl) (fun _ _ _ h => h) (Y.load rfl sc42 rfl celD) ?_
          refine TA.as (.slice ka l.length kc) (by rfl) ?_
          refine TA.take 3 rfl rfl rfl rfl (by kernel_rfl) (by kernel_rfl) (by kernel_rfl) rfl (by kernel_rfl) (by kernel_rfl) (fun _ _ _ h => h) (Y.len rfl Try.underlying42 rfl) ?_
          refine TA.one 1 (by kernel_rfl) rfl rfl rfl rfl (X.call rfl Try.func23 (by kernel_rfl) rfl rfl (Fn.preE (by repeat first | (with_reducible apply Ent.refl) | (apply Ent.cons; case h => first | (with_reducible (repeat first | apply Pull.here | apply Pull.there); done) | (repeat first | apply Pull.here | apply Pull.there))) (tbs.Len_fn _ _ l _))) ?_
          rintro _ _ ⟨rfl, rfl⟩
          refine ⟨(Or.inr (by repeat first | exact holds_nil | refine holds_cons inn ?_)), ?_⟩
          refine TA.take 4 rfl rfl rfl rfl (by kernel_rfl) (by kernel_rfl) (by kernel_rfl) rfl (by kernel_rfl) (by kernel_rfl) (fun _ _ _ h => h) (Y.bin rfl rfl rfl (br_neN)) ?_
          refine TA.is false (by first | rfl | (simp only [decide_eq_true_eq, decide_eq_false_iff_not, Bool.not_eq_true', Bool.not_eq_false', Bool.not_eq_eq_eq_not, Bool.not_true, Bool.not_false, Nat.not_lt, Nat.not_le]; omega) | (simp [*]; done) | (simp; omega)) ?_
          refine TA.done (by kernel_rfl) ?_
          refine TQ.next ?_
          refine TC.cond_f rfl ?_
          refine TC.skip ?_
          refine TQ.block_normal ?_
          refine TQ.next ?_
          refine TC.region ?_
          refine TL.val rfl rfl rfl (Y.bin rfl rfl rfl (br_addN (n := 1) (by omega))) ?_
          refine TL.val rfl rfl rfl (Y.move rfl rfl) ?_
          refine TL.nil ?_
          refine TQ.loopF ((k + 1, l, (ka, kc), (va, vc))) (⟨by simp only; omega, hl, hn⟩) (by simp only; omega) ⟨rfl, trivial⟩ (by (repeat first | apply Grow.refl | apply Grow.step | apply Grow.app)) ?_ ?_ ?_
          · kernel_rfl
          · rfl
          · simp only [List.cons_append, List.nil_append]
            exact ett
    · try simp only [decide_eq_true_eq, decide_eq_false_iff_not, Bool.not_eq_true', Bool.not_eq_false', Bool.and_eq_true, Bool.or_eq_true, Nat.not_lt, Nat.not_le, beq_iff_eq, bne_iff_ne] at c2
      refine TC.exit ?_
      refine TQ.then_exit ?_
      refine TQ.then_exit ?_
      refine TQ.block_exit ?_
      refine TQ.next ?_
      refine TC.seq ?_
      refine TC.region ?_
      refine TL.eff rfl rfl rfl (X.alloc rfl zc3) ?_
      rintro _ _ ⟨b17, rfl, rfl⟩
      refine TL.eff0 rfl rfl (by first | exact X.store rfl sz3 rfl rfl rfl pul lnn (by first | exact setM (f := vN) (x := 0) | rfl) | exact X.storeOwn rfl sz3 rfl (Nat.zero_add _).symm rfl rfl pul lnn (by first | exact setML (f := vN) (x := 0) | rfl) | exact X.storeOwn rfl sz3 rfl rfl rfl rfl pul lnn (by first | exact setML (f := vN) (x := 0) | rfl)) ?_
      rintro _ _ rfl
      refine TL.nil ?_
      refine TQ.next ?_
      refine TC.seq ?_
      refine TC.seq ?_
      refine TC.region ?_
      refine TL.val rfl rfl rfl (Y.move rfl rfl) ?_
      refine TL.eff rfl rfl rfl (X.call rfl Try.func24 (by kernel_rfl) rfl rfl (Fn.preE (by repeat first | (with_reducible apply Ent.refl) | (apply Ent.cons; case h => first | (with_reducible (repeat first | apply Pull.here | apply Pull.there); done) | (repeat first | apply Pull.here | apply Pull.there))) (tbs.All_fn _ _))) ?_
      rintro _ _ ⟨c159, rfl, rfl⟩
      refine TL.nil ?_
      refine TQ.next ?_
      refine TC.block ?_
      refine TC.rangeF (ι := Nat) (ιx := Nat) Try.func48 (by kernel_rfl) (by kernel_rfl) rfl (by kernel_rfl) (tbs.All_iter c159 tb27 M l (by omega)) (fun _ => rfl) (fun i j => j = i) (fun j => [SA.blk b17 #[vN j] 3]) _ (fun x => (x : Int) = stop ∧ x ≤ l.length) (fun _ => .exit 5) (fun x => [SA.blk b17 #[vN x] 3]) (0) (rfl) (Pulls.cons pul (Pulls.cons pul Pulls.nil)) (Pulls.ent (Pulls.cons pul Pulls.nil)) ?_ ?_ ?_
      · rintro i j hi hI lr rr ZZ F' L' rfl hL'
        simp only [List.cons_append, List.nil_append] at hL'
        subst hL'
        simp only [psF, List.nil_append, List.append_nil, List.cons_append]
        have hI2 := hI.symm
        subst hI2
        obtain ⟨x, hx, -⟩ := getS (l := l) (i := i) hi
        have hd : l.getD i Dat.dflt = x := by rw [List.getD_eq_getElem?_getD, hx]; rfl
        rw [hd]
        have hxf : (l.map Prod.fst)[i]? = some x.1 := by rw [List.getElem?_map, hx]; rfl
        have hxs : (l.map Prod.snd)[i]? = some x.2 := by rw [List.getElem?_map, hx]; rfl
        refine TC.know (owns_some (e := 9) (n := l.length) (a := ka) inn (by omega)) ?_
        rintro ⟨gk, offk, rfl⟩
        refine TC.know (owns_some (e := 21) (n := l.length) (a := va) inn (by omega)) ?_
        rintro ⟨gv, offv, rfl⟩
        refine TC.seq ?_
        refine TC.region ?_
        refine TL.val rfl rfl rfl (Y.assign rfl rfl) ?_
        refine TL.nil ?_
        refine TQ.next ?_
        refine TC.region ?_
        refine TL.val rfl rfl rfl (Y.assign rfl rfl) ?_
        refine TL.nil ?_
        refine TQ.begin ?_
        refine TC.block ?_
        refine TC.seq ?_
        refine TC.seq ?_
        refine TC.region ?_
        refine TL.val rfl rfl rfl (Y.load rfl sc3 rfl celN) ?_
        refine TL.as (vN i) (by rfl) ?_
        refine TL.val rfl rfl rfl (Y.load rfl sc42 rfl celD) ?_
        refine TL.as (.slice (some ⟨gk, offk, none⟩) l.length kc) (by rfl) ?_
        refine TL.val rfl rfl rfl (Y.len rfl Try.underlying42 rfl) ?_
        refine TL.val rfl rfl rfl (Y.bin rfl rfl rfl (br_geN)) ?_
        refine TL.is false (by first | rfl | (simp only [decide_eq_true_eq, decide_eq_false_iff_not, Bool.not_eq_true', Bool.not_eq_false', Bool.not_eq_eq_eq_not, Bool.not_true, Bool.not_false, Nat.not_lt, Nat.not_le]; omega) | (simp [*]; done) | (simp; omega)) ?_
        refine TL.val rfl rfl rfl (Y.move rfl rfl) ?_
        refine TL.valG rfl rfl rfl (Y.move rfl rfl) ?_
        refine TL.valG rfl rfl rfl (Y.load rfl sc42 rfl celD) ?_
        refine TL.as (.slice (some ⟨gk, offk, none⟩) l.length kc) (by rfl) ?_
        refine TL.valG rfl rfl rfl (Y.load rfl sc3 rfl celN) ?_
        refine TL.as (vN i) (by rfl) ?_
        refine TL.valG rfl rfl rfl (by first | exact Y.indexSlB rfl sl42 rfl rfl (by omega) nqq | exact Y.indexSl rfl sl42 rfl rfl (by omega) nqq) ?_
        refine TL.valG rfl rfl rfl (Y.load rfl sc9 rfl (Cel.atS (l := l.map Prod.fst) Reads.owns inn hxf rfl)) ?_
        refine TL.as (vS x.1) (by rfl) ?_
        refine TL.valG rfl rfl rfl (Y.neB rfl rfl rfl) ?_
        refine TL.is false (by first | rfl | (simp only [decide_eq_true_eq, decide_eq_false_iff_not, Bool.not_eq_true', Bool.not_eq_false', Bool.not_eq_eq_eq_not, Bool.not_true, Bool.not_false, Nat.not_lt, Nat.not_le]; omega) | (simp [*]; done) | (simp; omega)) ?_
        refine TL.val rfl rfl rfl (Y.pick_f rfl rfl rfl) ?_
        refine TL.val rfl rfl rfl (Y.move rfl rfl) ?_
        refine TL.valG rfl rfl rfl (Y.move rfl rfl) ?_
        refine TL.valG rfl rfl rfl (Y.load rfl sc29 rfl celD) ?_
        refine TL.as (.slice (some ⟨gv, offv, none⟩) l.length vc) (by rfl) ?_
        refine TL.valG rfl rfl rfl (Y.load rfl sc3 rfl celN) ?_
        refine TL.as (vN i) (by rfl) ?_
        refine TL.valG rfl rfl rfl (by first | exact Y.indexSlB rfl sl29 rfl rfl (by omega) nqq | exact Y.indexSl rfl sl29 rfl rfl (by omega) nqq) ?_
        refine TL.valG rfl rfl rfl (Y.load rfl sc21 rfl (Cel.atS (l := l.map Prod.snd) Reads.owns inn hxs rfl)) ?_
        refine TL.as (.int .i32 x.2.n) (by rfl) ?_
        refine TL.valG rfl rfl rfl (Y.bin rfl rfl rfl (br_neI)) ?_
        refine TL.is false (by first | rfl | (simp only [decide_eq_true_eq, decide_eq_false_iff_not, Bool.not_eq_true', Bool.not_eq_false', Bool.not_eq_eq_eq_not, Bool.not_true, Bool.not_false, Nat.not_lt, Nat.not_le]; omega) | (simp [*]; done) | (simp; omega)) ?_
        refine TL.val rfl rfl rfl (Y.pick_f rfl rfl rfl) ?_
        refine TL.nil ?_
        refine TQ.next ?_
        refine TC.cond_f rfl ?_
        refine TC.skip ?_
        refine TQ.next ?_
        refine TC.seq ?_
        refine TC.region ?_
        refine TL.val rfl rfl rfl (Y.load rfl sc3 rfl celN) ?_
        refine TL.as (vN i) (by rfl) ?_
        refine TL.val rfl rfl rfl (Y.bin rfl rfl rfl (br_addN (n := 1) (by omega))) ?_
        refine TL.eff0 rfl rfl (by first | exact X.store rfl sz3 rfl rfl rfl pul lnn (by first | exact setM | rfl) | exact X.storeOwn rfl sz3 rfl (Nat.zero_add _).symm rfl rfl pul lnn (by first | exact setML | rfl) | exact X.storeOwn rfl sz3 rfl rfl rfl rfl pul lnn (by first | exact setML | rfl)) ?_
        rintro _ _ rfl
        refine TL.nil ?_
        refine TQ.next ?_
        refine TC.seq ?_
        refine TC.region ?_
        refine TL.val rfl rfl rfl (Y.load rfl sc3 rfl celN) ?_
        refine TL.as (vN (i + 1)) (by rfl) ?_
        refine TL.val rfl rfl rfl (Y.load rfl sc3 rfl celN) ?_
        refine TL.as (vI stop) (by rfl) ?_
        refine TL.val rfl rfl rfl (Y.bin rfl rfl rfl (br_eqI)) ?_
        refine TL.nil ?_
        refine TQ.next ?_
        refine TC.cond rfl (fun c15 => ?_) (fun c15 => ?_)
        · try simp only [decide_eq_true_eq, decide_eq_false_iff_not, Bool.not_eq_true', Bool.not_eq_false', Bool.and_eq_true, Bool.or_eq_true, Nat.not_lt, Nat.not_le, beq_iff_eq, bne_iff_ne] at c15
          refine TC.exit ?_
          refine TQ.block_out rfl ?_
          refine TQ.rd_exit (i + 1) (⟨c15, by omega⟩) rfl ?_
          simp only [List.cons_append, List.nil_append]
          exact ett
        · try simp only [decide_eq_true_eq, decide_eq_false_iff_not, Bool.not_eq_true', Bool.not_eq_false', Bool.and_eq_true, Bool.or_eq_true, Nat.not_lt, Nat.not_le, beq_iff_eq, bne_iff_ne] at c15
          refine TC.skip ?_
          refine TQ.block_normal ?_
          refine TQ.rd_next (i + 1) (rfl) ?_
          simp only [List.cons_append, List.nil_append]
          exact ett
      · rintro j hI L' hL'
        simp only [List.cons_append, List.nil_append] at hL'
        subst hL'
        refine TQ.block_normal ?_
        refine TQ.next ?_
        refine TC.seq ?_
        refine TC.region ?_
        refine TL.val rfl rfl rfl (Y.load rfl sc3 rfl celN) ?_
        refine TL.as (vN j) (by rfl) ?_
        refine TL.val rfl rfl rfl (Y.load rfl sc42 rfl celD) ?_
        refine TL.as (.slice ka l.length kc) (by rfl) ?_
        refine TL.val rfl rfl rfl (Y.len rfl Try.underlying42 rfl) ?_
        refine TL.val rfl rfl rfl (Y.bin rfl rfl rfl (br_eqN)) ?_
        refine TL.val rfl rfl rfl (Y.move rfl rfl) ?_
        refine TL.case (fun g49_4 => ?_) (fun g49_4 => ?_)
        · try simp only [decide_eq_true_eq, decide_eq_false_iff_not, Bool.not_eq_true', Bool.not_eq_false', Nat.not_lt, Nat.not_le, beq_iff_eq, bne_iff_ne] at g49_4
          refine TL.not rfl rfl rfl ?_
          refine TL.not rfl rfl rfl ?_
          refine TL.not rfl rfl rfl ?_
          refine TL.val rfl rfl rfl (Y.pick_t rfl rfl rfl) ?_
          refine TL.eff0 rfl rfl (by first | exact X.store rfl sz4 rfl rfl rfl pul lnn (by first | exact setM | rfl) | exact X.storeOwn rfl sz4 rfl (Nat.zero_add _).symm rfl rfl pul lnn (by first | exact setML | rfl) | exact X.storeOwn rfl sz4 rfl rfl rfl rfl pul lnn (by first | exact setML | rfl)) ?_
          rintro _ _ rfl
          refine TL.nil ?_
          refine TQ.next ?_
          refine TC.ret ?_
          refine TQ.retE (resL rfl (Res.cell rfl sc4 (Cel.blk inn rfl) Res.nil)) (⟨rfl, rfl⟩) ?_
          exact ett
        · try simp only [decide_eq_true_eq, decide_eq_false_iff_not, Bool.not_eq_true', Bool.not_eq_false', Nat.not_lt, Nat.not_le, beq_iff_eq, bne_iff_ne] at g49_4
          refine TL.valG rfl rfl rfl (Y.load rfl sc3 rfl celN) ?_
          refine TL.as (vN j) (by rfl) ?_
          refine TL.valG rfl rfl rfl (Y.load rfl sc3 rfl celN) ?_
          refine TL.as (vI stop) (by rfl) ?_
          refine TL.valG rfl rfl rfl (Y.bin rfl rfl rfl (br_eqI)) ?_
          refine TL.is true (by (first | (exfalso; rw [hI] at g49_4; simp at g49_4; done) | (simp [hxs]; done))) ?_
          refine TL.val rfl rfl rfl (Y.pick_f rfl rfl rfl) ?_
          refine TL.eff0 rfl rfl (by first | exact X.store rfl sz4 rfl rfl rfl pul lnn (by first | exact setM | rfl) | exact X.storeOwn rfl sz4 rfl (Nat.zero_add _).symm rfl rfl pul lnn (by first | exact setML | rfl) | exact X.storeOwn rfl sz4 rfl rfl rfl rfl pul lnn (by first | exact setML | rfl)) ?_
          rintro _ _ rfl
          refine TL.nil ?_
          refine TQ.next ?_
          refine TC.ret ?_
          refine TQ.retE (resL rfl (Res.cell rfl sc4 (Cel.blk inn rfl) Res.nil)) (⟨rfl, rfl⟩) ?_
          exact ett
      · rintro j ⟨hxs, hxl⟩ L' hL'
        simp only [List.cons_append, List.nil_append] at hL'
        subst hL'
        refine TC.exit ?_
        refine TQ.block_exit ?_
        refine TQ.next ?_
        refine TC.seq ?_
        refine TC.region ?_
        refine TL.val rfl rfl rfl (Y.load rfl sc3 rfl celN) ?_
        refine TL.as (vN j) (by rfl) ?_
        refine TL.val rfl rfl rfl (Y.load rfl sc42 rfl celD) ?_
        refine TL.as (.slice ka l.length kc) (by rfl) ?_
        refine TL.val rfl rfl rfl (Y.len rfl Try.underlying42 rfl) ?_
        refine TL.val rfl rfl rfl (Y.bin rfl rfl rfl (br_eqN)) ?_
        refine TL.val rfl rfl rfl (Y.move rfl rfl) ?_
        refine TL.case (fun g49_4 => ?_) (fun g49_4 => ?_)
        · try simp only [decide_eq_true_eq, decide_eq_false_iff_not, Bool.not_eq_true', Bool.not_eq_false', Nat.not_lt, Nat.not_le, beq_iff_eq, bne_iff_ne] at g49_4
          refine TL.not rfl rfl rfl ?_
          refine TL.not rfl rfl rfl ?_
          refine TL.not rfl rfl rfl ?_
          refine TL.val rfl rfl rfl (Y.pick_t rfl rfl rfl) ?_
          refine TL.eff0 rfl rfl (by first | exact X.store rfl sz4 rfl rfl rfl pul lnn (by first | exact setM | rfl) | exact X.storeOwn rfl sz4 rfl (Nat.zero_add _).symm rfl rfl pul lnn (by first | exact setML | rfl) | exact X.storeOwn rfl sz4 rfl rfl rfl rfl pul lnn (by first | exact setML | rfl)) ?_
          rintro _ _ rfl
          refine TL.nil ?_
          refine TQ.next ?_
          refine TC.ret ?_
          refine TQ.retE (resL rfl (Res.cell rfl sc4 (Cel.blk inn rfl) Res.nil)) (⟨rfl, rfl⟩) ?_
          exact ett
        · try simp only [decide_eq_true_eq, decide_eq_false_iff_not, Bool.not_eq_true', Bool.not_eq_false', Nat.not_lt, Nat.not_le, beq_iff_eq, bne_iff_ne] at g49_4
          refine TL.valG rfl rfl rfl (Y.load rfl sc3 rfl celN) ?_
          refine TL.as (vN j) (by rfl) ?_
          refine TL.valG rfl rfl rfl (Y.load rfl sc3 rfl celN) ?_
          refine TL.as (vI stop) (by rfl) ?_
          refine TL.valG rfl rfl rfl (Y.bin rfl rfl rfl (br_eqI)) ?_
          refine TL.is true (by (first | (exfalso; rw [hI] at g49_4; simp at g49_4; done) | (simp [hxs]; done))) ?_
          refine TL.val rfl rfl rfl (Y.pick_f rfl rfl rfl) ?_
          refine TL.eff0 rfl rfl (by first | exact X.store rfl sz4 rfl rfl rfl pul lnn (by first | exact setM | rfl) | exact X.storeOwn rfl sz4 rfl (Nat.zero_add _).symm rfl rfl pul lnn (by first | exact setML | rfl) | exact X.storeOwn rfl sz4 rfl rfl rfl rfl pul lnn (by first | exact setML | rfl)) ?_
          rintro _ _ rfl
          refine TL.nil ?_
          refine TQ.next ?_
          refine TC.ret ?_
          refine TQ.retE (resL rfl (Res.cell rfl sc4 (Cel.blk inn rfl) Res.nil)) (⟨rfl, rfl⟩) ?_
          exact ett
end wi
end Go.Proofs.Ytdfncmfjlibidaa
