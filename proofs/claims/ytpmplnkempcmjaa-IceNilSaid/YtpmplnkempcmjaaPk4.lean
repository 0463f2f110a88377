/- The logic and the walks, in one text with others: part 4 of 6. -/
import Derived.Test.YtpmplnkempcmjaaChecked
import Derived.Test.YtpmplnkempcmjaaPk3
/- The document's SHA-1. -/
namespace Go.Proofs.Ytpmplnkempcmjaa
set_option linter.unusedVariables false
set_option linter.unusedSimpArgs false
open Go.RowKit
namespace sha
namespace FxShaRef
set_option maxRecDepth 100000
theorem ag101 : Program.aggN Try.prog 101 = some 20 := by kernel_rfl
theorem ag120 : Program.aggN Try.prog 120 = some 5 := by kernel_rfl
theorem ar101 : Program.arrI Try.prog 101 = some (20, 1) := by kernel_rfl
theorem ar120 : Program.arrI Try.prog 120 = some (5, 1) := by kernel_rfl
theorem ar123 : Program.arrI Try.prog 123 = some (80, 1) := by kernel_rfl
theorem el30 : Elt Try.prog 30 5 1 1 (.int .u8 0) := ⟨Try.underlying30, by kernel_rfl, rfl, by decide, by simp [Value.cells, Value.oneCell']⟩
theorem sc26 : Program.isSc Try.prog 26 = true := by kernel_rfl
theorem sc5 : Program.isSc Try.prog 5 = true := by kernel_rfl
theorem sl30 : Program.slI Try.prog 30 = some 1 := by kernel_rfl
theorem sz101 : (Try.prog.info? 101).map (·.size) = some 20 := by kernel_rfl
theorem sz120 : (Try.prog.info? 120).map (·.size) = some 5 := by kernel_rfl
theorem sz26 : (Try.prog.info? 26).map (·.size) = some 1 := by kernel_rfl
theorem sz5 : (Try.prog.info? 5).map (·.size) = some 1 := by kernel_rfl
theorem zc101 : Program.zeroC Try.prog 101 = some ((List.replicate 20 (0 : UInt8)).map v8).toArray := by kernel_rfl
theorem zc120 : Program.zeroC Try.prog 120 = some ((List.replicate 5 (0 : UInt32)).map v32).toArray := by kernel_rfl
theorem zc123 : Program.zeroC Try.prog 123 = some ((List.replicate 80 (0 : UInt32)).map v32).toArray := by kernel_rfl
end FxShaRef
open FxShaRef
theorem bits32 {x y : UInt32} (h : ∀ i, x.toBitVec.getLsbD i = y.toBitVec.getLsbD i) : x = y := UInt32.toBitVec_inj.1 (BitVec.eq_of_getLsbD_eq fun i _ => h i)
theorem ch_eq (b c d : UInt32) : (b &&& c) ||| (~~~b &&& d) = d ^^^ (b &&& (c ^^^ d)) := by
  apply bits32; intro i
  simp only [UInt32.toBitVec_or, UInt32.toBitVec_and, UInt32.toBitVec_xor, UInt32.toBitVec_not, BitVec.getLsbD_or, BitVec.getLsbD_and, BitVec.getLsbD_xor, BitVec.getLsbD_not]
  by_cases hi : i < 32
  · simp only [hi, decide_true, Bool.true_and]
    cases b.toBitVec.getLsbD i <;> cases c.toBitVec.getLsbD i <;> cases d.toBitVec.getLsbD i <;> rfl
  · have : d.toBitVec.getLsbD i = false := BitVec.getLsbD_of_ge _ _ (by omega)
    have : b.toBitVec.getLsbD i = false := BitVec.getLsbD_of_ge _ _ (by omega)
    simp_all
theorem maj_eq (b c d : UInt32) : (b &&& c) ||| (b &&& d) ||| (c &&& d) = (b &&& c) ||| (d &&& (b ||| c)) := by
  apply bits32; intro i
  simp only [UInt32.toBitVec_or, UInt32.toBitVec_and, UInt32.toBitVec_xor, UInt32.toBitVec_not, BitVec.getLsbD_or, BitVec.getLsbD_and, BitVec.getLsbD_xor, BitVec.getLsbD_not]
  cases b.toBitVec.getLsbD i <;> cases c.toBitVec.getLsbD i <;> cases d.toBitVec.getLsbD i <;> rfl
theorem ffR_0 {k : Nat} {b c d : UInt32} (h : k < 20) : ff (k / 20) b c d = (b &&& c) ||| (~~~b &&& d) := by rw [ch_eq, ff_0 (by omega)]
theorem ffR_1 {k : Nat} {b c d : UInt32} (h : 20 ≤ k) (h2 : k < 40) : ff (k / 20) b c d = b ^^^ c ^^^ d := ff_1 (by omega)
theorem ffR_2 {k : Nat} {b c d : UInt32} (h : 40 ≤ k) (h2 : k < 60) : ff (k / 20) b c d = (b &&& c) ||| (b &&& d) ||| (c &&& d) := by rw [maj_eq, ff_2 (by omega)]
theorem ffR_3 {k : Nat} {b c d : UInt32} (h : 60 ≤ k) : ff (k / 20) b c d = b ^^^ c ^^^ d := ff_3 (by omega) (by omega) (by omega)
theorem kkR_0 {k : Nat} (h : k < 20) : kk (k / 20) = 1518500249 := kk_0 (by omega)
theorem kkR_1 {k : Nat} (h : 20 ≤ k) (h2 : k < 40) : kk (k / 20) = 1859775393 := kk_1 (by omega)
theorem kkR_2 {k : Nat} (h : 40 ≤ k) (h2 : k < 60) : kk (k / 20) = 2400959708 := kk_2 (by omega)
theorem kkR_3 {k : Nat} (h : 60 ≤ k) : kk (k / 20) = 3395469782 := kk_3 (by omega) (by omega) (by omega)
theorem wordR (m : List UInt8) (o k : Nat) : shl32 (m.getD (o + 4 * k) 0).toUInt32 24 ||| shl32 (m.getD (o + 4 * k + 1) 0).toUInt32 16 ||| shl32 (m.getD (o + 4 * k + 2) 0).toUInt32 8 ||| (m.getD (o + 4 * k + 3) 0).toUInt32 = word (m.drop o) k := by
  simp only [word, getD_drop', Nat.add_assoc]
def rr (T : List UInt8) (j : Nat) : List UInt8 := T ++ ([128] ++ List.replicate j 0)
def rq (T : List UInt8) (i : Nat) : List UInt8 := T ++ ([128] ++ (List.replicate (zeros T.length) 0 ++ lenB (bitsN T) i))
theorem rr_0 (T : List UInt8) : ([] : List Value) ++ List.map v8 T ++ [Value.int .u8 128] = List.map v8 (rr T 0) := by simp [rr]
theorem rr_s (T : List UInt8) (j : Nat) : List.map v8 (rr T j) ++ [Value.int .u8 0] = List.map v8 (rr T (j + 1)) := by simp [rr, List.replicate_succ']
theorem rq_0 (T : List UInt8) : rr T (zeros T.length) = rq T 0 := by simp [rr, rq, lenB]
theorem rq_s (T : List UInt8) (j : Nat) : List.map v8 (rq T j) ++ [v8 (shr64 (bitsN T) (56 - 8 * j)).toUInt8] = List.map v8 (rq T (j + 1)) := by simp [rq, lenB_succ]
theorem list_len (s : S5) : s.list.length = 5 := rfl
theorem s5_list {H : List UInt32} (h : H.length = 5) : (s5 H).list = H := by
  match H, h with
  | [a, b, c, d, e], _ => rfl
set_option maxHeartbeats 4000000 in
theorem refSum_fn (A : SA) (a : Option Addr) (n cap : Nat) (bs : List UInt8) (hA : Reads A 1 (.slice a n cap) n (bs.map v8)) (hn : bs.length = n) (hlen : n ≤ 140737488355200) (L : List SA) :
    Fn Try.prog 64 [.slice a n cap] (A :: L) (fun v L' => v = .agg ((sha bs).map v8).toArray ∧ L' = A :: L) := by
  subst hn
  refine Fn.of (N := 232) Try.func64 rfl rfl ?_
  intro Xh
  refine TC.seq ?_
  refine TC.region ?_
  refine TL.eff rfl rfl rfl (X.alloc rfl zc101) ?_
  rintro _ _ ⟨b2, rfl, rfl⟩
  refine TL.nil ?_
  refine TQ.next ?_
  refine TC.seq ?_
  refine TC.region ?_
  refine TL.val rfl rfl rfl (Y.buildM rfl rfl Try.underlying120 sz26 zc120 rfl rfl rfl (by first | exact (by simp only [List.all_cons, List.all_nil, Value.oneCell', Bool.and_self]) | rfl)) ?_
  refine TL.eff rfl rfl rfl (X.alloc rfl zc120) ?_
  rintro _ _ ⟨b3, rfl, rfl⟩
  refine TL.eff0 rfl rfl (by first | exact X.storeAll rfl sz120 szz rfl rfl (by simp [Value.oneCell']) pul szz | exact X.storeAgg rfl sz120 szz rfl rfl (by simp [Value.oneCell']) pul szz (writeM (by ((try simp only [List.length_set, List.length_map, List.length_append, List.length_replicate]); omega)))) ?_
  rintro _ _ rfl
  refine TL.nil ?_
  refine TQ.next ?_
  refine TC.seq ?_
  refine TC.region ?_
  refine TL.eff rfl rfl rfl (X.lit rfl el30 rfl rfl rfl (by decide) rfl) ?_
  rintro _ _ ⟨g22, rfl, rfl⟩
  refine TL.val rfl rfl rfl (Y.move rfl rfl) ?_
  refine TL.eff rfl rfl rfl (X.appendS rfl el30 rfl pul rfl (by first | exact Src.owns Try.underlying30 inn | exact Src.rds Try.underlying30 inn | exact Src.reads (by assumption) Try.underlying30 inn) (by simp only [maxLen]; omega) (by omega)) ?_
  rintro _ _ ⟨a24, c24, rfl, rfl⟩
  refine TL.eff rfl rfl rfl (X.lit rfl el30 rfl rfl rfl (by decide) rfl) ?_
  rintro _ _ ⟨g25, rfl, rfl⟩
  refine TL.eff rfl rfl rfl (X.appendS rfl el30 rfl pul rfl (by first | exact Src.owns Try.underlying30 inn | exact Src.rds Try.underlying30 inn | exact Src.reads (by assumption) Try.underlying30 inn) (by simp only [maxLen]; omega) (by omega)) ?_
  rintro _ _ ⟨a26, c26, rfl, rfl⟩
  refine TL.val rfl rfl rfl (Y.assign rfl rfl) ?_
  refine TL.nil ?_
  refine TQ.next ?_
  refine TC.seq ?_
  refine TC.block ?_
  have ez : zeros bs.length = (119 - bs.length % 64) % 64 := rfl
  rw [rr_0, Nat.zero_add]
  refine TC.loopF (ι := Nat × Option Addr × Nat) [] (fun i => i.1 ≤ zeros bs.length) (fun i => [(4, some (.slice i.2.1 (bs.length + 1 + i.1) i.2.2))]) (fun i => [SA.owns 5 1 (.slice i.2.1 (bs.length + 1 + i.1) i.2.2) (bs.length + 1 + i.1) ((rr bs i.1).map v8)]) (fun i => zeros bs.length - i.1) ((0, _, _)) (Nat.zero_le _) ⟨rfl, trivial⟩ (Pulls.cons pul Pulls.nil) ?_
  rintro ⟨j, a4, cap4⟩ hj F' L' rfl hL'
  simp only [List.cons_append, List.nil_append] at hL'
  subst hL'
  dsimp only at hj ⊢
  refine TC.seq ?_
  refine TC.seq ?_
  refine TC.region ?_
  refine TL.val rfl rfl rfl (Y.move rfl rfl) ?_
  refine TL.val rfl rfl rfl (Y.len rfl Try.underlying30 rfl) ?_
  refine TL.val rfl rfl rfl (Y.bin rfl rfl rfl (br_remN (n := 64) (by omega))) ?_
  refine TL.val rfl rfl rfl (Y.bin rfl rfl rfl (br_neN (n := 56))) ?_
  refine TL.nil ?_
  refine TQ.next ?_
  refine TC.cond rfl (fun c0 => ?_) (fun c0 => ?_)
  · try simp only [decide_eq_true_eq, decide_eq_false_iff_not, Bool.not_eq_true', Bool.not_eq_false', Bool.and_eq_true, Bool.or_eq_true, Nat.not_lt, Nat.not_le, beq_iff_eq, bne_iff_ne] at c0
    have hj2 : j < zeros bs.length := by omega
    refine TC.skip ?_
    refine TQ.next ?_
    refine TC.block ?_
    refine TC.region ?_
    refine TL.val rfl rfl rfl (Y.move rfl rfl) ?_
    refine TL.eff rfl rfl rfl (X.lit rfl el30 rfl rfl rfl (by decide) rfl) ?_
    rintro _ _ ⟨g32, rfl, rfl⟩
    refine TL.eff rfl rfl rfl (X.appendS rfl el30 rfl pul rfl (by first | exact Src.owns Try.underlying30 inn | exact Src.rds Try.underlying30 inn | exact Src.reads (by assumption) Try.underlying30 inn) (by simp only [maxLen]; omega) (by omega)) ?_
    rintro _ _ ⟨a33, c33, rfl, rfl⟩
    refine TL.val rfl rfl rfl (Y.assign rfl rfl) ?_
    refine TL.nil ?_
    refine TQ.block_normal ?_
    rw [rr_s]
    refine TQ.loopF ((j + 1, _, _)) (by show j + 1 ≤ zeros bs.length; omega) (by show zeros bs.length - (j + 1) < zeros bs.length - j; omega) ⟨rfl, trivial⟩ (by (repeat first | apply Grow.refl | apply Grow.step | apply Grow.app)) ?_ ?_ ?_
    · kernel_rfl
    · rfl
    · simp only [List.cons_append, List.nil_append]
      exact ett
  · try simp only [decide_eq_true_eq, decide_eq_false_iff_not, Bool.not_eq_true', Bool.not_eq_false', Bool.and_eq_true, Bool.or_eq_true, Nat.not_lt, Nat.not_le, beq_iff_eq, bne_iff_ne] at c0
    refine TC.exit ?_
    refine TQ.then_exit ?_
    refine TQ.then_exit ?_
    refine TQ.block_exit ?_
    refine TQ.next ?_
    refine TC.seq ?_
    obtain rfl : j = zeros bs.length := by omega
    rw [rq_0]
    refine TC.region ?_
    refine TL.val rfl rfl rfl (Y.move rfl rfl) ?_
    refine TL.val rfl rfl rfl (Y.len rfl Try.underlying30 rfl) ?_
    refine TL.val rfl rfl rfl (Y.conv rfl Try.underlying3 Try.underlying122 rfl (cv_N_64)) ?_
    refine TL.val rfl rfl rfl (Y.bin rfl rfl rfl (br_mul64 (y := 8))) ?_
    refine TL.val rfl rfl rfl (Y.assign rfl rfl) ?_
    refine TL.nil ?_
    refine TQ.next ?_
    refine TC.seq ?_
    refine TC.seq ?_
    refine TC.region ?_
    refine TL.val rfl rfl rfl (Y.move rfl rfl) ?_
    refine TL.nil ?_
    refine TQ.next ?_
    refine TC.block ?_
    refine TC.loopF (ι := Nat × Option Addr × Nat) [] (fun i => i.1 ≤ 8) (fun i => [(38, some (vN i.1)), (4, some (.slice i.2.1 (bs.length + 1 + zeros bs.length + i.1) i.2.2))]) (fun i => [SA.owns 5 1 (.slice i.2.1 (bs.length + 1 + zeros bs.length + i.1) i.2.2) (bs.length + 1 + zeros bs.length + i.1) ((rq bs i.1).map v8)]) (fun i => 8 - i.1) ((0, _, _)) (by omega) ⟨rfl, rfl, trivial⟩ (Pulls.cons pul Pulls.nil) ?_
    rintro ⟨j, a6, cap6⟩ hj6 F' L' rfl hL'
    simp only [List.cons_append, List.nil_append] at hL'
    subst hL'
    dsimp only at hj6 ⊢
    refine TC.seq ?_
    refine TC.region ?_
    refine TL.val rfl rfl rfl (Y.bin rfl rfl rfl (br_ltN (n := 8))) ?_
    refine TL.nil ?_
    refine TQ.next ?_
    refine TC.seq ?_
    refine TC.cond rfl (fun c1 => ?_) (fun c1 => ?_)
    · try simp only [decide_eq_true_eq, decide_eq_false_iff_not, Bool.not_eq_true', Bool.not_eq_false', Bool.and_eq_true, Bool.or_eq_true, Nat.not_lt, Nat.not_le, beq_iff_eq, bne_iff_ne] at c1
      refine TC.skip ?_
      refine TQ.next ?_
      refine TC.seq ?_
      refine TC.block ?_
      refine TC.seq ?_
      refine TC.region ?_
      refine TL.val rfl rfl rfl (Y.move rfl rfl) ?_
      refine TL.val rfl rfl rfl (Y.assign rfl rfl) ?_
      refine TL.nil ?_
      refine TQ.next ?_
      refine TC.region ?_
      refine TL.val rfl rfl rfl (Y.move rfl rfl) ?_
      refine TL.val rfl rfl rfl (Y.move rfl rfl) ?_
      refine TL.val rfl rfl rfl (Y.move rfl rfl) ?_
      refine TL.val rfl rfl rfl (Y.bin rfl rfl rfl (br_mulN (m := 8) (by omega))) ?_
      refine TL.val rfl rfl rfl (Y.bin rfl rfl rfl (br_subN (m := 56) (by omega) (by omega))) ?_
      refine TL.val rfl rfl rfl (Y.conv rfl Try.underlying3 Try.underlying80 rfl (cv_N_64n (by omega))) ?_
      refine TL.val rfl rfl rfl (Y.bin rfl rfl rfl (br_shr64)) ?_
      refine TL.val rfl rfl rfl (Y.conv rfl Try.underlying122 Try.underlying5 rfl (cv_64_8)) ?_
      refine TL.eff rfl rfl rfl (X.lit rfl el30 rfl rfl rfl (by decide) rfl) ?_
      rintro _ _ ⟨g49, rfl, rfl⟩
      refine TL.eff rfl rfl rfl (X.appendS rfl el30 rfl pul rfl (by first | exact Src.owns Try.underlying30 inn | exact Src.rds Try.underlying30 inn | exact Src.reads (by assumption) Try.underlying30 inn) (by simp only [maxLen]; omega) (by omega)) ?_
      rintro _ _ ⟨a50, c50, rfl, rfl⟩
      refine TL.val rfl rfl rfl (Y.assign rfl rfl) ?_
      refine TL.nil ?_
      refine TQ.block_normal ?_
      refine TQ.next ?_
      refine TC.region ?_
      refine TL.val rfl rfl rfl (Y.bin rfl rfl rfl (br_addN (n := 1) (by omega))) ?_
      refine TL.val rfl rfl rfl (Y.move rfl rfl) ?_
      refine TL.nil ?_
      rw [show UInt64.ofNat bs.length * 8 = bitsN bs from rfl, rq_s]
      refine TQ.loopF ((j + 1, _, _)) (by show j + 1 ≤ 8; omega) (by show 8 - (j + 1) < 8 - j; omega) ⟨rfl, rfl, trivial⟩ (by (repeat first | apply Grow.refl | apply Grow.step | apply Grow.app)) ?_ ?_ ?_
      · kernel_rfl
      · rfl
      · simp only [List.cons_append, List.nil_append]
        exact ett
    · try simp only [decide_eq_true_eq, decide_eq_false_iff_not, Bool.not_eq_true', Bool.not_eq_false', Bool.and_eq_true, Bool.or_eq_true, Nat.not_lt, Nat.not_le, beq_iff_eq, bne_iff_ne] at c1
      refine TC.exit ?_
      refine TQ.then_exit ?_
      refine TQ.then_exit ?_
      refine TQ.block_exit ?_
      refine TQ.next ?_
      refine TC.seq ?_
      refine TC.seq ?_
      obtain rfl : j = 8 := by omega
      have hMl := padded_len bs
      have hMm := padded_mod bs
      rw [show rq bs 8 = padded bs from rfl, show bs.length + 1 + zeros bs.length + 8 = (padded bs).length by omega]
      generalize hM : padded bs = M at hMl hMm ⊢
      refine TC.region ?_
      refine TL.val rfl rfl rfl (Y.assign rfl rfl) ?_
      refine TL.nil ?_
      refine TQ.next ?_
      refine TC.block ?_
      refine TC.loopF (ι := Nat) [] (fun q => 64 * q ≤ M.length) (fun q => [(7, some (vN (64 * q)))]) (fun q => [SA.blk b3 ((runB H0 M q).map v32).toArray 120]) (fun q => M.length - 64 * q) (0) (by omega) ⟨rfl, trivial⟩ (Pulls.cons pul Pulls.nil) ?_
      rintro q hq F' L' rfl hL'
      simp only [List.cons_append, List.nil_append] at hL'
      subst hL'
      have hrl : (runB H0 M q).length = 5 := runB_len H0 M q
      refine TC.know (owns_cap (cap := cap6) inn) ?_
      rintro ⟨hc6, hm6, -⟩
      simp only [maxLen] at hm6
      refine TC.seq ?_
      refine TC.seq ?_
      refine TC.region ?_
      refine TL.val rfl rfl rfl (Y.move rfl rfl) ?_
      refine TL.val rfl rfl rfl (Y.move rfl rfl) ?_
      refine TL.val rfl rfl rfl (Y.len rfl Try.underlying30 rfl) ?_
      refine TL.val rfl rfl rfl (Y.bin rfl rfl rfl (br_ltN)) ?_
      refine TL.nil ?_
      refine TQ.next ?_
      refine TC.cond rfl (fun c2 => ?_) (fun c2 => ?_)
      · try simp only [decide_eq_true_eq, decide_eq_false_iff_not, Bool.not_eq_true', Bool.not_eq_false', Bool.and_eq_true, Bool.or_eq_true, Nat.not_lt, Nat.not_le, beq_iff_eq, bne_iff_ne] at c2
        refine TC.know (owns_some (cap := cap6) inn (by omega)) ?_
        rintro ⟨g6, off6, rfl⟩
        refine TC.skip ?_
        refine TQ.next ?_
        refine TC.seq ?_
        refine TC.block ?_
        refine TC.seq ?_
        refine TC.region ?_
        refine TL.eff rfl rfl rfl (X.alloc rfl zc123) ?_
        rintro _ _ ⟨b8, rfl, rfl⟩
        refine TL.nil ?_
        refine TQ.next ?_
        refine TC.seq ?_
        refine TC.seq ?_
        refine TC.region ?_
        refine TL.val rfl rfl rfl (Y.move rfl rfl) ?_
        refine TL.nil ?_
        refine TQ.next ?_
        refine TC.block ?_
        refine TC.loopF (ι := Nat) [] (fun k => k ≤ 16) (fun k => [(58, some (vN k))]) (fun k => [SA.blk b8 ((fill1 (M.drop (64 * q)) k).map v32).toArray 123]) (fun k => 16 - k) (0) (by omega) ⟨rfl, trivial⟩ (Pulls.cons pul Pulls.nil) ?_
        rintro k hk F' L' rfl hL'
        simp only [List.cons_append, List.nil_append] at hL'
        subst hL'
        have hw := fill1_len (M.drop (64 * q)) k
        refine TC.seq ?_
        refine TC.region ?_
        refine TL.val rfl rfl rfl (Y.bin rfl rfl rfl (br_ltN (n := 16))) ?_
        refine TL.nil ?_
        refine TQ.next ?_
        refine TC.seq ?_
        refine TC.cond rfl (fun c3 => ?_) (fun c3 => ?_)
        · try simp only [decide_eq_true_eq, decide_eq_false_iff_not, Bool.not_eq_true', Bool.not_eq_false', Bool.and_eq_true, Bool.or_eq_true, Nat.not_lt, Nat.not_le, beq_iff_eq, bne_iff_ne] at c3
          refine TC.skip ?_
          refine TQ.next ?_
          refine TC.seq ?_
          refine TC.block ?_
          refine TC.seq ?_
          refine TC.region ?_
          refine TL.val rfl rfl rfl (Y.move rfl rfl) ?_
          refine TL.val rfl rfl rfl (Y.assign rfl rfl) ?_
          refine TL.nil ?_
          refine TQ.next ?_
          refine TC.draws 43 _ (by kernel_rfl) (by kernel_rfl) (fun _ h => h) ?_
          refine TA.take 0 rfl rfl rfl rfl (by kernel_rfl) (by kernel_rfl) (by kernel_rfl) rfl (by kernel_rfl) (by kernel_rfl) (fun _ _ _ h => h) (Y.move rfl rfl) ?_
          refine TA.take 1 rfl rfl rfl rfl (by kernel_rfl) (by kernel_rfl) (by kernel_rfl) rfl (by kernel_rfl) (by kernel_rfl) (fun _ _ _ h => h) (Y.move rfl rfl) ?_
          refine TA.take 2 rfl rfl rfl rfl (by kernel_rfl) (by kernel_rfl) (by kernel_rfl) rfl (by kernel_rfl) (by kernel_rfl) (fun _ _ _ h => h) (Y.move rfl rfl) ?_
          refine TA.take 3 rfl rfl rfl rfl (by kernel_rfl) (by kernel_rfl) (by kernel_rfl) rfl (by kernel_rfl) (by kernel_rfl) (fun _ _ _ h => h) (Y.move rfl rfl) ?_
          refine TA.take 4 rfl rfl rfl rfl (by kernel_rfl) (by kernel_rfl) (by kernel_rfl) rfl (by kernel_rfl) (by kernel_rfl) (fun _ _ _ h => h) (Y.bin rfl rfl rfl (br_mulN (m := 4) (by omega))) ?_
          refine TA.take 5 rfl rfl rfl rfl (by kernel_rfl) (by kernel_rfl) (by kernel_rfl) rfl (by kernel_rfl) (by kernel_rfl) (fun _ _ _ h => h) (Y.bin rfl rfl rfl (br_addN (by omega))) ?_
          refine TA.take 6 rfl rfl rfl rfl (by kernel_rfl) (by kernel_rfl) (by kernel_rfl) rfl (by kernel_rfl) (by kernel_rfl) (fun _ _ _ h => h) (by first | exact Y.indexSlB rfl sl30 rfl rfl (by omega) nqq | exact Y.indexSl rfl sl30 rfl rfl (by omega) nqq) ?_
          refine TA.take 7 rfl rfl rfl rfl (by kernel_rfl) (by kernel_rfl) (by kernel_rfl) rfl (by kernel_rfl) (by kernel_rfl) (fun _ _ _ h => h) (Y.load rfl sc5 rfl ceo8) ?_
          refine TA.take 8 rfl rfl rfl rfl (by kernel_rfl) (by kernel_rfl) (by kernel_rfl) rfl (by kernel_rfl) (by kernel_rfl) (fun _ _ _ h => h) (Y.conv rfl Try.underlying5 Try.underlying26 rfl (cv_8_32)) ?_
          refine TA.take 9 rfl rfl rfl rfl (by kernel_rfl) (by kernel_rfl) (by kernel_rfl) rfl (by kernel_rfl) (by kernel_rfl) (fun _ _ _ h => h) (Y.bin rfl rfl rfl (br_shl32 (n := 24))) ?_
          refine TA.take 10 rfl rfl rfl rfl (by kernel_rfl) (by kernel_rfl) (by kernel_rfl) rfl (by kernel_rfl) (by kernel_rfl) (fun _ _ _ h => h) (Y.move rfl rfl) ?_
          refine TA.take 11 rfl rfl rfl rfl (by kernel_rfl) (by kernel_rfl) (by kernel_rfl) rfl (by kernel_rfl) (by kernel_rfl) (fun _ _ _ h => h) (Y.move rfl rfl) ?_
          refine TA.take 12 rfl rfl rfl rfl (by kernel_rfl) (by kernel_rfl) (by kernel_rfl) rfl (by kernel_rfl) (by kernel_rfl) (fun _ _ _ h => h) (Y.move rfl rfl) ?_
          refine TA.take 13 rfl rfl rfl rfl (by kernel_rfl) (by kernel_rfl) (by kernel_rfl) rfl (by kernel_rfl) (by kernel_rfl) (fun _ _ _ h => h) (Y.bin rfl rfl rfl (br_mulN (m := 4) (by omega))) ?_
          refine TA.take 14 rfl rfl rfl rfl (by kernel_rfl) (by kernel_rfl) (by kernel_rfl) rfl (by kernel_rfl) (by kernel_rfl) (fun _ _ _ h => h) (Y.bin rfl rfl rfl (br_addN (by omega))) ?_
          refine TA.take 15 rfl rfl rfl rfl (by kernel_rfl) (by kernel_rfl) (by kernel_rfl) rfl (by kernel_rfl) (by kernel_rfl) (fun _ _ _ h => h) (Y.bin rfl rfl rfl (br_addN (n := 1) (by omega))) ?_
          refine TA.take 16 rfl rfl rfl rfl (by kernel_rfl) (by kernel_rfl) (by kernel_rfl) rfl (by kernel_rfl) (by kernel_rfl) (fun _ _ _ h => h) (by first | exact Y.indexSlB rfl sl30 rfl rfl (by omega) nqq | exact Y.indexSl rfl sl30 rfl rfl (by omega) nqq) ?_
          refine TA.take 17 rfl rfl rfl rfl (by kernel_rfl) (by kernel_rfl) (by kernel_rfl) rfl (by kernel_rfl) (by kernel_rfl) (fun _ _ _ h => h) (Y.load rfl sc5 rfl ceo8) ?_
          refine TA.take 18 rfl rfl rfl rfl (by kernel_rfl) (by kernel_rfl) (by kernel_rfl) rfl (by kernel_rfl) (by kernel_rfl) (fun _ _ _ h => h) (Y.conv rfl Try.underlying5 Try.underlying26 rfl (cv_8_32)) ?_
          refine TA.take 19 rfl rfl rfl rfl (by kernel_rfl) (by kernel_rfl) (by kernel_rfl) rfl (by kernel_rfl) (by kernel_rfl) (fun _ _ _ h => h) (Y.bin rfl rfl rfl (br_shl32 (n := 16))) ?_
          refine TA.take 20 rfl rfl rfl rfl (by kernel_rfl) (by kernel_rfl) (by kernel_rfl) rfl (by kernel_rfl) (by kernel_rfl) (fun _ _ _ h => h) (Y.bin rfl rfl rfl (br_or32)) ?_
          refine TA.take 21 rfl rfl rfl rfl (by kernel_rfl) (by kernel_rfl) (by kernel_rfl) rfl (by kernel_rfl) (by kernel_rfl) (fun _ _ _ h => h) (Y.move rfl rfl) ?_
          refine TA.take 22 rfl rfl rfl rfl (by kernel_rfl) (by kernel_rfl) (by kernel_rfl) rfl (by kernel_rfl) (by kernel_rfl) (fun _ _ _ h => h) (Y.move rfl rfl) ?_
          refine TA.take 23 rfl rfl rfl rfl (by kernel_rfl) (by kernel_rfl) (by kernel_rfl) rfl (by kernel_rfl) (by kernel_rfl) (fun _ _ _ h => h) (Y.move rfl rfl) ?_
          refine TA.take 24 rfl rfl rfl rfl (by kernel_rfl) (by kernel_rfl) (by kernel_rfl) rfl (by kernel_rfl) (by kernel_rfl) (fun _ _ _ h => h) (Y.bin rfl rfl rfl (br_mulN (m := 4) (by omega))) ?_
          refine TA.take 25 rfl rfl rfl rfl (by kernel_rfl) (by kernel_rfl) (by kernel_rfl) rfl (by kernel_rfl) (by kernel_rfl) (fun _ _ _ h => h) (Y.bin rfl rfl rfl (br_addN (by omega))) ?_
          refine TA.take 26 rfl rfl rfl rfl (by kernel_rfl) (by kernel_rfl) (by kernel_rfl) rfl (by kernel_rfl) (by kernel_rfl) (fun _ _ _ h => h) (Y.bin rfl rfl rfl (br_addN (n := 2) (by omega))) ?_
          refine TA.take 27 rfl rfl rfl rfl (by kernel_rfl) (by kernel_rfl) (by kernel_rfl) rfl (by kernel_rfl) (by kernel_rfl) (fun _ _ _ h => h) (by first | exact Y.indexSlB rfl sl30 rfl rfl (by omega) nqq | exact Y.indexSl rfl sl30 rfl rfl (by omega) nqq) ?_
          refine TA.take 28 rfl rfl rfl rfl (by kernel_rfl) (by kernel_rfl) (by kernel_rfl) rfl (by kernel_rfl) (by kernel_rfl) (fun _ _ _ h => h) (Y.load rfl sc5 rfl ceo8) ?_
          refine TA.take 29 rfl rfl rfl rfl (by kernel_rfl) (by kernel_rfl) (by kernel_rfl) rfl (by kernel_rfl) (by kernel_rfl) (fun _ _ _ h => h) (Y.conv rfl Try.underlying5 Try.underlying26 rfl (cv_8_32)) ?_
          refine TA.take 30 rfl rfl rfl rfl (by kernel_rfl) (by kernel_rfl) (by kernel_rfl) rfl (by kernel_rfl) (by kernel_rfl) (fun _ _ _ h => h) (Y.bin rfl rfl rfl (br_shl32 (n := 8))) ?_
          refine TA.take 31 rfl rfl rfl rfl (by kernel_rfl) (by kernel_rfl) (by kernel_rfl) rfl (by kernel_rfl) (by kernel_rfl) (fun _ _ _ h => h) (Y.bin rfl rfl rfl (br_or32)) ?_
          refine TA.take 32 rfl rfl rfl rfl (by kernel_rfl) (by kernel_rfl) (by kernel_rfl) rfl (by kernel_rfl) (by kernel_rfl) (fun _ _ _ h => h) (Y.move rfl rfl) ?_
          refine TA.take 33 rfl rfl rfl rfl (by kernel_rfl) (by kernel_rfl) (by kernel_rfl) rfl (by kernel_rfl) (by kernel_rfl) (fun _ _ _ h => h) (Y.move rfl rfl) ?_
          refine TA.take 34 rfl rfl rfl rfl (by kernel_rfl) (by kernel_rfl) (by kernel_rfl) rfl (by kernel_rfl) (by kernel_rfl) (fun _ _ _ h => h) (Y.move rfl rfl) ?_
          refine TA.take 35 rfl rfl rfl rfl (by kernel_rfl) (by kernel_rfl) (by kernel_rfl) rfl (by kernel_rfl) (by kernel_rfl) (fun _ _ _ h => h) (Y.bin rfl rfl rfl (br_mulN (m := 4) (by omega))) ?_
          refine TA.take 36 rfl rfl rfl rfl (by kernel_rfl) (by kernel_rfl) (by kernel_rfl) rfl (by kernel_rfl) (by kernel_rfl) (fun _ _ _ h => h) (Y.bin rfl rfl rfl (br_addN (by omega))) ?_
          refine TA.take 37 rfl rfl rfl rfl (by kernel_rfl) (by kernel_rfl) (by kernel_rfl) rfl (by kernel_rfl) (by kernel_rfl) (fun _ _ _ h => h) (Y.bin rfl rfl rfl (br_addN (n := 3) (by omega))) ?_
          refine TA.take 38 rfl rfl rfl rfl (by kernel_rfl) (by kernel_rfl) (by kernel_rfl) rfl (by kernel_rfl) (by kernel_rfl) (fun _ _ _ h => h) (by first | exact Y.indexSlB rfl sl30 rfl rfl (by omega) nqq | exact Y.indexSl rfl sl30 rfl rfl (by omega) nqq) ?_
          refine TA.take 39 rfl rfl rfl rfl (by kernel_rfl) (by kernel_rfl) (by kernel_rfl) rfl (by kernel_rfl) (by kernel_rfl) (fun _ _ _ h => h) (Y.load rfl sc5 rfl ceo8) ?_
          refine TA.take 40 rfl rfl rfl rfl (by kernel_rfl) (by kernel_rfl) (by kernel_rfl) rfl (by kernel_rfl) (by kernel_rfl) (fun _ _ _ h => h) (Y.conv rfl Try.underlying5 Try.underlying26 rfl (cv_8_32)) ?_
          refine TA.take 41 rfl rfl rfl rfl (by kernel_rfl) (by kernel_rfl) (by kernel_rfl) rfl (by kernel_rfl) (by kernel_rfl) (fun _ _ _ h => h) (Y.bin rfl rfl rfl (br_or32)) ?_
          refine TA.take 42 rfl rfl rfl rfl (by kernel_rfl) (by kernel_rfl) (by kernel_rfl) rfl (by kernel_rfl) (by kernel_rfl) (fun _ _ _ h => h) (Y.indexArr rfl ar123 rfl rfl (by omega) nqq) ?_
          refine TA.one0 43 (by kernel_rfl) rfl rfl rfl (by first | exact X.store rfl sz26 rfl rfl rfl pul lnn (by first | exact setM | rfl) | exact X.storeOwn rfl sz26 rfl (Nat.zero_add _).symm rfl rfl pul lnn (by first | exact setML | rfl) | exact X.storeOwn rfl sz26 rfl rfl rfl rfl pul lnn (by first | exact setML | rfl)) ?_
          rintro _ _ rfl
          refine ⟨(Or.inl (by kernel_rfl)), ?_⟩
          refine TA.done (by kernel_rfl) ?_
          refine TQ.block_normal ?_
          refine TQ.next ?_
          refine TC.region ?_
          refine TL.val rfl rfl rfl (Y.bin rfl rfl rfl (br_addN (n := 1) (by omega))) ?_
          refine TL.val rfl rfl rfl (Y.move rfl rfl) ?_
          refine TL.nil ?_
          rw [wordR]
          refine TQ.loopF (k + 1) (by omega) (by omega) ⟨rfl, trivial⟩ (by (repeat first | apply Grow.refl | apply Grow.step | apply Grow.app)) ?_ ?_ ?_
          · kernel_rfl
          · rfl
          · simp only [List.cons_append, List.nil_append]
            exact ett
        · try simp only [decide_eq_true_eq, decide_eq_false_iff_not, Bool.not_eq_true', Bool.not_eq_false', Bool.and_eq_true, Bool.or_eq_true, Nat.not_lt, Nat.not_le, beq_iff_eq, bne_iff_ne] at c3
          refine TC.exit ?_
          refine TQ.then_exit ?_
          refine TQ.then_exit ?_
          refine TQ.block_exit ?_
          refine TQ.next ?_
          refine TC.seq ?_
          refine TC.seq ?_
          refine TC.region ?_
          refine TL.val rfl rfl rfl (Y.assign rfl rfl) ?_
          refine TL.nil ?_
          refine TQ.next ?_
          refine TC.block ?_
          obtain rfl : k = 16 := by omega
          refine TC.loopF (ι := Nat) [] (fun k => k ≤ 64) (fun k => [(10, some (vN (k + 16)))]) (fun k => [SA.blk b8 ((fill2 (M.drop (64 * q)) k).map v32).toArray 123]) (fun k => 64 - k) (0) (by omega) ⟨rfl, trivial⟩ (Pulls.cons pul Pulls.nil) ?_
          rintro k hk F' L' rfl hL'
          simp only [List.cons_append, List.nil_append] at hL'
          subst hL'
          have hw2 := fill2_len (M.drop (64 * q)) k
          refine TC.seq ?_
          refine TC.seq ?_
          refine TC.region ?_
          refine TL.val rfl rfl rfl (Y.move rfl rfl) ?_
          refine TL.val rfl rfl rfl (Y.bin rfl rfl rfl (br_ltN (n := 80))) ?_
          refine TL.nil ?_
          refine TQ.next ?_
          refine TC.cond rfl (fun c4 => ?_) (fun c4 => ?_)
          · try simp only [decide_eq_true_eq, decide_eq_false_iff_not, Bool.not_eq_true', Bool.not_eq_false', Bool.and_eq_true, Bool.or_eq_true, Nat.not_lt, Nat.not_le, beq_iff_eq, bne_iff_ne] at c4
            refine TC.skip ?_
            refine TQ.next ?_
            refine TC.seq ?_
            refine TC.block ?_
            refine TC.draws 22 _ (by kernel_rfl) (by kernel_rfl) (fun _ h => h) ?_
            refine TA.take 0 rfl rfl rfl rfl (by kernel_rfl) (by kernel_rfl) (by kernel_rfl) rfl (by kernel_rfl) (by kernel_rfl) (fun _ _ _ h => h) (Y.move rfl rfl) ?_
            refine TA.take 1 rfl rfl rfl rfl (by kernel_rfl) (by kernel_rfl) (by kernel_rfl) rfl (by kernel_rfl) (by kernel_rfl) (fun _ _ _ h => h) (Y.move rfl rfl) ?_
            refine TA.take 2 rfl rfl rfl rfl (by kernel_rfl) (by kernel_rfl) (by kernel_rfl) rfl (by kernel_rfl) (by kernel_rfl) (fun _ _ _ h => h) (Y.bin rfl rfl rfl (br_subN (n := 3) (by omega) (by omega))) ?_
            refine TA.take 3 rfl rfl rfl rfl (by kernel_rfl) (by kernel_rfl) (by kernel_rfl) rfl (by kernel_rfl) (by kernel_rfl) (fun _ _ _ h => h) (Y.indexArr rfl ar123 rfl rfl (by omega) nqq) ?_
            refine TA.take 4 rfl rfl rfl rfl (by kernel_rfl) (by kernel_rfl) (by kernel_rfl) rfl (by kernel_rfl) (by kernel_rfl) (fun _ _ _ h => h) (Y.load rfl sc26 rfl ceo32) ?_
            refine TA.take 5 rfl rfl rfl rfl (by kernel_rfl) (by kernel_rfl) (by kernel_rfl) rfl (by kernel_rfl) (by kernel_rfl) (fun _ _ _ h => h) (Y.move rfl rfl) ?_
            refine TA.take 6 rfl rfl rfl rfl (by kernel_rfl) (by kernel_rfl) (by kernel_rfl) rfl (by kernel_rfl) (by kernel_rfl) (fun _ _ _ h => h) (Y.bin rfl rfl rfl (br_subN (n := 8) (by omega) (by omega))) ?_
            refine TA.take 7 rfl rfl rfl rfl (by kernel_rfl) (by kernel_rfl) (by kernel_rfl) rfl (by kernel_rfl) (by kernel_rfl) (fun _ _ _ h => h) (Y.indexArr rfl ar123 rfl rfl (by omega) nqq) ?_
            refine TA.take 8 rfl rfl rfl rfl (by kernel_rfl) (by kernel_rfl) (by kernel_rfl) rfl (by kernel_rfl) (by kernel_rfl) (fun _ _ _ h => h) (Y.load rfl sc26 rfl ceo32) ?_
            refine TA.take 9 rfl rfl rfl rfl (by kernel_rfl) (by kernel_rfl) (by kernel_rfl) rfl (by kernel_rfl) (by kernel_rfl) (fun _ _ _ h => h) (Y.bin rfl rfl rfl (br_xor32)) ?_
            refine TA.take 10 rfl rfl rfl rfl (by kernel_rfl) (by kernel_rfl) (by kernel_rfl) rfl (by kernel_rfl) (by kernel_rfl) (fun _ _ _ h => h) (Y.move rfl rfl) ?_
            refine TA.take 11 rfl rfl rfl rfl (by kernel_rfl) (by kernel_rfl) (by kernel_rfl) rfl (by kernel_rfl) (by kernel_rfl) (fun _ _ _ h => h) (Y.bin rfl rfl rfl (br_subN (n := 14) (by omega) (by omega))) ?_
            refine TA.take 12 rfl rfl rfl rfl (by kernel_rfl) (by kernel_rfl) (by kernel_rfl) rfl (by kernel_rfl) (by kernel_rfl) (fun _ _ _ h => h) (Y.indexArr rfl ar123 rfl rfl (by omega) nqq) ?_
            refine TA.take 13 rfl rfl rfl rfl (by kernel_rfl) (by kernel_rfl) (by kernel_rfl) rfl (by kernel_rfl) (by kernel_rfl) (fun _ _ _ h => h) (Y.load rfl sc26 rfl ceo32) ?_
            refine TA.take 14 rfl rfl rfl rfl (by kernel_rfl) (by kernel_rfl) (by kernel_rfl) rfl (by kernel_rfl) (by kernel_rfl) (fun _ _ _ h => h) (Y.bin rfl rfl rfl (br_xor32)) ?_
            refine TA.take 15 rfl rfl rfl rfl (by kernel_rfl) (by kernel_rfl) (by kernel_rfl) rfl (by kernel_rfl) (by kernel_rfl) (fun _ _ _ h => h) (Y.move rfl rfl) ?_
            refine TA.take 16 rfl rfl rfl rfl (by kernel_rfl) (by kernel_rfl) (by kernel_rfl) rfl (by kernel_rfl) (by kernel_rfl) (fun _ _ _ h => h) (Y.bin rfl rfl rfl (br_subN (n := 16) (by omega) (by omega))) ?_
            refine TA.take 17 rfl rfl rfl rfl (by kernel_rfl) (by kernel_rfl) (by kernel_rfl) rfl (by kernel_rfl) (by kernel_rfl) (fun _ _ _ h => h) (Y.indexArr rfl ar123 rfl rfl (by omega) nqq) ?_
            refine TA.take 18 rfl rfl rfl rfl (by kernel_rfl) (by kernel_rfl) (by kernel_rfl) rfl (by kernel_rfl) (by kernel_rfl) (fun _ _ _ h => h) (Y.load rfl sc26 rfl ceo32) ?_
            refine TA.take 19 rfl rfl rfl rfl (by kernel_rfl) (by kernel_rfl) (by kernel_rfl) rfl (by kernel_rfl) (by kernel_rfl) (fun _ _ _ h => h) (Y.bin rfl rfl rfl (br_xor32)) ?_
            refine TA.one 20 (by kernel_rfl) rfl rfl rfl rfl (X.call rfl Try.func66 (by kernel_rfl) rfl rfl (rot.ref_fn _ 1 (by decide) _)) ?_
            rintro _ _ ⟨rfl, rfl⟩
            refine ⟨(Or.inr (fun w h A hA => h A (by with_reducible (first | assumption | (repeat first | exact In.there hA | apply In.there))))), ?_⟩
            refine TA.take 21 rfl rfl rfl rfl (by kernel_rfl) (by kernel_rfl) (by kernel_rfl) rfl (by kernel_rfl) (by kernel_rfl) (fun _ _ _ h => h) (Y.indexArr rfl ar123 rfl rfl (by omega) nqq) ?_
            refine TA.one0 22 (by kernel_rfl) rfl rfl rfl (by first | exact X.store rfl sz26 rfl rfl rfl pul lnn (by first | exact setM | rfl) | exact X.storeOwn rfl sz26 rfl (Nat.zero_add _).symm rfl rfl pul lnn (by first | exact setML | rfl) | exact X.storeOwn rfl sz26 rfl rfl rfl rfl pul lnn (by first | exact setML | rfl)) ?_
            rintro _ _ rfl
            refine ⟨(Or.inl (by kernel_rfl)), ?_⟩
            refine TA.done (by kernel_rfl) ?_
            refine TQ.block_normal ?_
            refine TQ.next ?_
            refine TC.region ?_
            refine TL.val rfl rfl rfl (Y.move rfl rfl) ?_
            refine TL.val rfl rfl rfl (Y.bin rfl rfl rfl (br_addN (n := 1) (by omega))) ?_
            refine TL.val rfl rfl rfl (Y.assign rfl rfl) ?_
            refine TL.nil ?_
            refine TQ.loopF (k + 1) (by omega) (by omega) ⟨rfl, trivial⟩ (by (repeat first | apply Grow.refl | apply Grow.step | apply Grow.app)) ?_ ?_ ?_
            · kernel_rfl
            · rfl
            · simp only [List.cons_append, List.nil_append]
              exact ett
          · try simp only [decide_eq_true_eq, decide_eq_false_iff_not, Bool.not_eq_true', Bool.not_eq_false', Bool.and_eq_true, Bool.or_eq_true, Nat.not_lt, Nat.not_le, beq_iff_eq, bne_iff_ne] at c4
            refine TC.exit ?_
            refine TQ.then_exit ?_
            refine TQ.then_exit ?_
            refine TQ.block_exit ?_
            refine TQ.next ?_
            refine TC.seq ?_
            obtain rfl : k = 64 := by omega
            generalize hW : fill2 (M.drop (64 * q)) 64 = W at hw2 ⊢
            generalize hH : runB H0 M q = H at hrl ⊢
            refine TC.region ?_
            refine TL.val rfl rfl rfl (Y.loadAgg rfl ag120 rfl (Cels.full inn) (by ((try simp only [List.length_map, List.length_set, List.length_replicate]); omega))) ?_
            refine TL.eff rfl rfl rfl (X.alloc rfl zc120) ?_
            rintro _ _ ⟨b11, rfl, rfl⟩
            refine TL.eff0 rfl rfl (by first | exact X.storeAll rfl sz120 szz rfl rfl (by simp [Value.oneCell']) pul szz | exact X.storeAgg rfl sz120 szz rfl rfl (by simp [Value.oneCell']) pul szz (writeM (by ((try simp only [List.length_set, List.length_map, List.length_append, List.length_replicate]); omega)))) ?_
            rintro _ _ rfl
            refine TL.nil ?_
            refine TQ.next ?_
            refine TC.seq ?_
            refine TC.seq ?_
            refine TC.region ?_
            refine TL.val rfl rfl rfl (Y.move rfl rfl) ?_
            refine TL.nil ?_
            refine TQ.next ?_
            refine TC.block ?_
            refine TC.loopF (ι := Nat) [] (fun k => k ≤ 80) (fun k => [(132, some (vN k))]) (fun k => [SA.blk b11 ((rounds W (s5 H) k).list.map v32).toArray 120]) (fun k => 80 - k) (0) (by omega) ⟨rfl, trivial⟩ (by rw [show (rounds W (s5 H) 0).list = H from s5_list hrl]; exact Pulls.cons pul Pulls.nil) ?_
            rintro k hk F' L' rfl hL'
            simp only [List.cons_append, List.nil_append] at hL'
            subst hL'
            have hll := list_len (rounds W (s5 H) k)
            generalize hS : rounds W (s5 H) k = s at hll ⊢
            refine TC.seq ?_
            refine TC.region ?_
            refine TL.val rfl rfl rfl (Y.bin rfl rfl rfl (br_ltN (n := 80))) ?_
            refine TL.nil ?_
            refine TQ.next ?_
            refine TC.seq ?_
            refine TC.cond rfl (fun c5 => ?_) (fun c5 => ?_)
            · try simp only [decide_eq_true_eq, decide_eq_false_iff_not, Bool.not_eq_true', Bool.not_eq_false', Bool.and_eq_true, Bool.or_eq_true, Nat.not_lt, Nat.not_le, beq_iff_eq, bne_iff_ne] at c5
              refine TC.skip ?_
              refine TQ.next ?_
              refine TC.seq ?_
              refine TC.block ?_
              refine TC.seq ?_
              refine TC.region ?_
              refine TL.val rfl rfl rfl (Y.move rfl rfl) ?_
              refine TL.val rfl rfl rfl (Y.assign rfl rfl) ?_
              refine TL.nil ?_
              refine TQ.next ?_
              refine TC.seq ?_
              refine TC.draws 9 _ (by kernel_rfl) (by kernel_rfl) (fun _ h => h) ?_
              refine TA.take 0 rfl rfl rfl rfl (by kernel_rfl) (by kernel_rfl) (by kernel_rfl) rfl (by kernel_rfl) (by kernel_rfl) (fun _ _ _ h => h) (Y.indexArr (j := 1) rfl ar120 rfl rfl (by omega) nqq) ?_
              refine TA.take 1 rfl rfl rfl rfl (by kernel_rfl) (by kernel_rfl) (by kernel_rfl) rfl (by kernel_rfl) (by kernel_rfl) (fun _ _ _ h => h) (Y.load rfl sc26 rfl ceo32) ?_
              refine TA.take 2 rfl rfl rfl rfl (by kernel_rfl) (by kernel_rfl) (by kernel_rfl) rfl (by kernel_rfl) (by kernel_rfl) (fun _ _ _ h => h) (Y.indexArr (j := 2) rfl ar120 rfl rfl (by omega) nqq) ?_
              refine TA.take 3 rfl rfl rfl rfl (by kernel_rfl) (by kernel_rfl) (by kernel_rfl) rfl (by kernel_rfl) (by kernel_rfl) (fun _ _ _ h => h) (Y.load rfl sc26 rfl ceo32) ?_
              refine TA.take 4 rfl rfl rfl rfl (by kernel_rfl) (by kernel_rfl) (by kernel_rfl) rfl (by kernel_rfl) (by kernel_rfl) (fun _ _ _ h => h) (Y.indexArr (j := 3) rfl ar120 rfl rfl (by omega) nqq) ?_
              refine TA.take 5 rfl rfl rfl rfl (by kernel_rfl) (by kernel_rfl) (by kernel_rfl) rfl (by kernel_rfl) (by kernel_rfl) (fun _ _ _ h => h) (Y.load rfl sc26 rfl ceo32) ?_
              refine TA.take 6 rfl rfl rfl rfl (by kernel_rfl) (by kernel_rfl) (by kernel_rfl) rfl (by kernel_rfl) (by kernel_rfl) (fun _ _ _ h => h) (Y.assign rfl rfl) ?_
              refine TA.take 7 rfl rfl rfl rfl (by kernel_rfl) (by kernel_rfl) (by kernel_rfl) rfl (by kernel_rfl) (by kernel_rfl) (fun _ _ _ h => h) (Y.assign rfl rfl) ?_
              refine TA.take 8 rfl rfl rfl rfl (by kernel_rfl) (by kernel_rfl) (by kernel_rfl) rfl (by kernel_rfl) (by kernel_rfl) (fun _ _ _ h => h) (Y.assign rfl rfl) ?_
              refine TA.done (by kernel_rfl) ?_
              refine TQ.next ?_
              refine TC.seq ?_
              refine TC.region ?_
              refine TL.val rfl rfl rfl (Y.move rfl rfl) ?_
              refine TL.val rfl rfl rfl (Y.move rfl rfl) ?_
              refine TL.val rfl rfl rfl (Y.bin rfl rfl rfl (br_and32)) ?_
              refine TL.val rfl rfl rfl (Y.move rfl rfl) ?_
              refine TL.val rfl rfl rfl (Y.xor32 rfl rfl) ?_
              refine TL.val rfl rfl rfl (Y.move rfl rfl) ?_
              refine TL.val rfl rfl rfl (Y.bin rfl rfl rfl (br_and32)) ?_
              refine TL.val rfl rfl rfl (Y.bin rfl rfl rfl (br_or32)) ?_
              refine TL.val rfl rfl rfl (Y.assign rfl rfl) ?_
              refine TL.val rfl rfl rfl (Y.assign rfl rfl) ?_
              refine TL.nil ?_
              refine TQ.next ?_
              refine TC.cutF (ι := Unit) [] (fun _ => True) (fun _ => [(16, some (v32 (ff (k / 20) s.b s.c s.d))), (17, some (v32 (kk (k / 20))))]) (fun _ => []) (Ao := []) Pulls.nil ?_ ?_
              · rintro L' hL'
                simp only [List.cons_append, List.nil_append] at hL'
                subst hL'
                refine TC.block ?_
                refine TC.seq ?_
                refine TC.region ?_
                refine TL.val rfl rfl rfl (Y.move rfl rfl) ?_
                refine TL.val rfl rfl rfl (Y.bin rfl rfl rfl (br_geN (n := 60))) ?_
                refine TL.val rfl rfl rfl (Y.assign rfl rfl) ?_
                refine TL.nil ?_
                refine TQ.next ?_
                refine TC.cond rfl (fun c6 => ?_) (fun c6 => ?_)
                · try simp only [decide_eq_true_eq, decide_eq_false_iff_not, Bool.not_eq_true', Bool.not_eq_false', Bool.and_eq_true, Bool.or_eq_true, Nat.not_lt, Nat.not_le, beq_iff_eq, bne_iff_ne] at c6
                  refine TC.region ?_
                  refine TL.val rfl rfl rfl (Y.move rfl rfl) ?_
                  refine TL.val rfl rfl rfl (Y.move rfl rfl) ?_
                  refine TL.val rfl rfl rfl (Y.bin rfl rfl rfl (br_xor32)) ?_
                  refine TL.val rfl rfl rfl (Y.move rfl rfl) ?_
                  refine TL.val rfl rfl rfl (Y.bin rfl rfl rfl (br_xor32)) ?_
                  refine TL.val rfl rfl rfl (Y.assign rfl rfl) ?_
                  refine TL.val rfl rfl rfl (Y.assign rfl rfl) ?_
                  refine TL.nil ?_
                  refine TQ.block_normal ?_
                  refine TQ.meetF (()) (trivial) (by first | exact ⟨by rw [ffR_3 c6]; rfl, by rw [kkR_3 c6]; rfl, trivial⟩ | exact ⟨by rw [ffR_2 c7 c6]; rfl, by rw [kkR_2 c7 c6]; rfl, trivial⟩ | exact ⟨by rw [ffR_1 c8 c7]; rfl, by rw [kkR_1 c8 c7]; rfl, trivial⟩ | exact ⟨by rw [ffR_0 c8]; rfl, by rw [kkR_0 c8]; rfl, trivial⟩) (by (repeat first | apply Grow.refl | apply Grow.step | apply Grow.app)) ?_ ?_
                  · kernel_rfl
                  · simp only [List.cons_append, List.nil_append]
                    exact ett
                · try simp only [decide_eq_true_eq, decide_eq_false_iff_not, Bool.not_eq_true', Bool.not_eq_false', Bool.and_eq_true, Bool.or_eq_true, Nat.not_lt, Nat.not_le, beq_iff_eq, bne_iff_ne] at c6
                  refine TC.seq ?_
                  refine TC.region ?_
                  refine TL.val rfl rfl rfl (Y.move rfl rfl) ?_
                  refine TL.val rfl rfl rfl (Y.bin rfl rfl rfl (br_geN (n := 40))) ?_
                  refine TL.val rfl rfl rfl (Y.assign rfl rfl) ?_
                  refine TL.nil ?_
                  refine TQ.next ?_
                  refine TC.cond rfl (fun c7 => ?_) (fun c7 => ?_)
                  · try simp only [decide_eq_true_eq, decide_eq_false_iff_not, Bool.not_eq_true', Bool.not_eq_false', Bool.and_eq_true, Bool.or_eq_true, Nat.not_lt, Nat.not_le, beq_iff_eq, bne_iff_ne] at c7
                    refine TC.region ?_
                    refine TL.val rfl rfl rfl (Y.move rfl rfl) ?_
                    refine TL.val rfl rfl rfl (Y.move rfl rfl) ?_
                    refine TL.val rfl rfl rfl (Y.bin rfl rfl rfl (br_and32)) ?_
                    refine TL.val rfl rfl rfl (Y.move rfl rfl) ?_
                    refine TL.val rfl rfl rfl (Y.move rfl rfl) ?_
                    refine TL.val rfl rfl rfl (Y.bin rfl rfl rfl (br_and32)) ?_
                    refine TL.val rfl rfl rfl (Y.bin rfl rfl rfl (br_or32)) ?_
                    refine TL.val rfl rfl rfl (Y.move rfl rfl) ?_
                    refine TL.val rfl rfl rfl (Y.move rfl rfl) ?_
                    refine TL.val rfl rfl rfl (Y.bin rfl rfl rfl (br_and32)) ?_
                    refine TL.val rfl rfl rfl (Y.bin rfl rfl rfl (br_or32)) ?_
                    refine TL.val rfl rfl rfl (Y.assign rfl rfl) ?_
                    refine TL.val rfl rfl rfl (Y.assign rfl rfl) ?_
                    refine TL.nil ?_
                    refine TQ.block_normal ?_
                    refine TQ.meetF (()) (trivial) (by first | exact ⟨by rw [ffR_3 c6]; rfl, by rw [kkR_3 c6]; rfl, trivial⟩ | exact ⟨by rw [ffR_2 c7 c6]; rfl, by rw [kkR_2 c7 c6]; rfl, trivial⟩ | exact ⟨by rw [ffR_1 c8 c7]; rfl, by rw [kkR_1 c8 c7]; rfl, trivial⟩ | exact ⟨by rw [ffR_0 c8]; rfl, by rw [kkR_0 c8]; rfl, trivial⟩) (by (repeat first | apply Grow.refl | apply Grow.step | apply Grow.app)) ?_ ?_
                    · kernel_rfl
                    · simp only [List.cons_append, List.nil_append]
                      exact ett
                  · try simp only [decide_eq_true_eq, decide_eq_false_iff_not, Bool.not_eq_true', Bool.not_eq_false', Bool.and_eq_true, Bool.or_eq_true, Nat.not_lt, Nat.not_le, beq_iff_eq, bne_iff_ne] at c7
                    refine TC.seq ?_
                    refine TC.region ?_
                    refine TL.val rfl rfl rfl (Y.move rfl rfl) ?_
                    refine TL.val rfl rfl rfl (Y.bin rfl rfl rfl (br_geN (n := 20))) ?_
                    refine TL.val rfl rfl rfl (Y.assign rfl rfl) ?_
                    refine TL.nil ?_
                    refine TQ.next ?_
                    refine TC.cond rfl (fun c8 => ?_) (fun c8 => ?_)
                    · try simp only [decide_eq_true_eq, decide_eq_false_iff_not, Bool.not_eq_true', Bool.not_eq_false', Bool.and_eq_true, Bool.or_eq_true, Nat.not_lt, Nat.not_le, beq_iff_eq, bne_iff_ne] at c8
                      refine TC.region ?_
                      refine TL.val rfl rfl rfl (Y.move rfl rfl) ?_
                      refine TL.val rfl rfl rfl (Y.move rfl rfl) ?_
                      refine TL.val rfl rfl rfl (Y.bin rfl rfl rfl (br_xor32)) ?_
                      refine TL.val rfl rfl rfl (Y.move rfl rfl) ?_
                      refine TL.val rfl rfl rfl (Y.bin rfl rfl rfl (br_xor32)) ?_
                      refine TL.val rfl rfl rfl (Y.assign rfl rfl) ?_
                      refine TL.val rfl rfl rfl (Y.assign rfl rfl) ?_
                      refine TL.nil ?_
                      refine TQ.block_normal ?_
                      refine TQ.meetF (()) (trivial) (by first | exact ⟨by rw [ffR_3 c6]; rfl, by rw [kkR_3 c6]; rfl, trivial⟩ | exact ⟨by rw [ffR_2 c7 c6]; rfl, by rw [kkR_2 c7 c6]; rfl, trivial⟩ | exact ⟨by rw [ffR_1 c8 c7]; rfl, by rw [kkR_1 c8 c7]; rfl, trivial⟩ | exact ⟨by rw [ffR_0 c8]; rfl, by rw [kkR_0 c8]; rfl, trivial⟩) (by (repeat first | apply Grow.refl | apply Grow.step | apply Grow.app)) ?_ ?_
                      · kernel_rfl
                      · simp only [List.cons_append, List.nil_append]
                        exact ett
                    · try simp only [decide_eq_true_eq, decide_eq_false_iff_not, Bool.not_eq_true', Bool.not_eq_false', Bool.and_eq_true, Bool.or_eq_true, Nat.not_lt, Nat.not_le, beq_iff_eq, bne_iff_ne] at c8
                      refine TC.skip ?_
                      refine TQ.block_normal ?_
                      refine TQ.meetF (()) (trivial) (by first | exact ⟨by rw [ffR_3 c6]; rfl, by rw [kkR_3 c6]; rfl, trivial⟩ | exact ⟨by rw [ffR_2 c7 c6]; rfl, by rw [kkR_2 c7 c6]; rfl, trivial⟩ | exact ⟨by rw [ffR_1 c8 c7]; rfl, by rw [kkR_1 c8 c7]; rfl, trivial⟩ | exact ⟨by rw [ffR_0 c8]; rfl, by rw [kkR_0 c8]; rfl, trivial⟩) (by (repeat first | apply Grow.refl | apply Grow.step | apply Grow.app)) ?_ ?_
                      · kernel_rfl
                      · simp only [List.cons_append, List.nil_append]
                        exact ett
              · rintro ⟨⟩ - F' L' rfl hL'
                simp only [List.cons_append, List.nil_append] at hL'
                subst hL'
                refine TC.draws 21 _ (by kernel_rfl) (by kernel_rfl) (fun _ h => h) ?_
                refine TA.take 0 rfl rfl rfl rfl (by kernel_rfl) (by kernel_rfl) (by kernel_rfl) rfl (by kernel_rfl) (by kernel_rfl) (fun _ _ _ h => h) (Y.indexArr (j := 0) rfl ar120 rfl rfl (by omega) nqq) ?_
                refine TA.take 1 rfl rfl rfl rfl (by kernel_rfl) (by kernel_rfl) (by kernel_rfl) rfl (by kernel_rfl) (by kernel_rfl) (fun _ _ _ h => h) (Y.load rfl sc26 rfl ceo32) ?_
                refine TA.take 3 rfl rfl rfl rfl (by kernel_rfl) (by kernel_rfl) (by kernel_rfl) rfl (by kernel_rfl) (by kernel_rfl) (fun _ _ _ h => h) (Y.move rfl rfl) ?_
                refine TA.take 5 rfl rfl rfl rfl (by kernel_rfl) (by kernel_rfl) (by kernel_rfl) rfl (by kernel_rfl) (by kernel_rfl) (fun _ _ _ h => h) (Y.indexArr (j := 4) rfl ar120 rfl rfl (by omega) nqq) ?_
                refine TA.take 6 rfl rfl rfl rfl (by kernel_rfl) (by kernel_rfl) (by kernel_rfl) rfl (by kernel_rfl) (by kernel_rfl) (fun _ _ _ h => h) (Y.load rfl sc26 rfl ceo32) ?_
                refine TA.take 8 rfl rfl rfl rfl (by kernel_rfl) (by kernel_rfl) (by kernel_rfl) rfl (by kernel_rfl) (by kernel_rfl) (fun _ _ _ h => h) (Y.move rfl rfl) ?_
                refine TA.take 10 rfl rfl rfl rfl (by kernel_rfl) (by kernel_rfl) (by kernel_rfl) rfl (by kernel_rfl) (by kernel_rfl) (fun _ _ _ h => h) (Y.move rfl rfl) ?_
                refine TA.take 11 rfl rfl rfl rfl (by kernel_rfl) (by kernel_rfl) (by kernel_rfl) rfl (by kernel_rfl) (by kernel_rfl) (fun _ _ _ h => h) (Y.indexArr rfl ar123 rfl rfl (by omega) nqq) ?_
                refine TA.take 12 rfl rfl rfl rfl (by kernel_rfl) (by kernel_rfl) (by kernel_rfl) rfl (by kernel_rfl) (by kernel_rfl) (fun _ _ _ h => h) (Y.load rfl sc26 rfl ceo32) ?_
                refine TA.take 14 rfl rfl rfl rfl (by kernel_rfl) (by kernel_rfl) (by kernel_rfl) rfl (by kernel_rfl) (by kernel_rfl) (fun _ _ _ h => h) (Y.indexArr (j := 0) rfl ar120 rfl rfl (by omega) nqq) ?_
                refine TA.take 15 rfl rfl rfl rfl (by kernel_rfl) (by kernel_rfl) (by kernel_rfl) rfl (by kernel_rfl) (by kernel_rfl) (fun _ _ _ h => h) (Y.load rfl sc26 rfl ceo32) ?_
                refine TA.take 16 rfl rfl rfl rfl (by kernel_rfl) (by kernel_rfl) (by kernel_rfl) rfl (by kernel_rfl) (by kernel_rfl) (fun _ _ _ h => h) (Y.move rfl rfl) ?_
                refine TA.take 18 rfl rfl rfl rfl (by kernel_rfl) (by kernel_rfl) (by kernel_rfl) rfl (by kernel_rfl) (by kernel_rfl) (fun _ _ _ h => h) (Y.move rfl rfl) ?_
                refine TA.take 19 rfl rfl rfl rfl (by kernel_rfl) (by kernel_rfl) (by kernel_rfl) rfl (by kernel_rfl) (by kernel_rfl) (fun _ _ _ h => h) (Y.move rfl rfl) ?_
                refine TA.one 2 (by kernel_rfl) rfl rfl rfl rfl (X.call rfl Try.func66 (by kernel_rfl) rfl rfl (rot.ref_fn _ 5 (by decide) _)) ?_
                rintro _ _ ⟨rfl, rfl⟩
                refine ⟨(Or.inr (fun w h A hA => h A (by with_reducible (first | assumption | (repeat first | exact In.there hA | apply In.there))))), ?_⟩
                refine TA.take 4 rfl rfl rfl rfl (by kernel_rfl) (by kernel_rfl) (by kernel_rfl) rfl (by kernel_rfl) (by kernel_rfl) (fun _ _ _ h => h) (Y.bin rfl rfl rfl (br_add32)) ?_
                refine TA.take 7 rfl rfl rfl rfl (by kernel_rfl) (by kernel_rfl) (by kernel_rfl) rfl (by kernel_rfl) (by kernel_rfl) (fun _ _ _ h => h) (Y.bin rfl rfl rfl (br_add32)) ?_
                refine TA.take 9 rfl rfl rfl rfl (by kernel_rfl) (by kernel_rfl) (by kernel_rfl) rfl (by kernel_rfl) (by kernel_rfl) (fun _ _ _ h => h) (Y.bin rfl rfl rfl (br_add32)) ?_
                refine TA.take 13 rfl rfl rfl rfl (by kernel_rfl) (by kernel_rfl) (by kernel_rfl) rfl (by kernel_rfl) (by kernel_rfl) (fun _ _ _ h => h) (Y.bin rfl rfl rfl (br_add32)) ?_
                refine TA.one 17 (by kernel_rfl) rfl rfl rfl rfl (X.call rfl Try.func66 (by kernel_rfl) rfl rfl (rot.ref_fn _ 30 (by decide) _)) ?_
                rintro _ _ ⟨rfl, rfl⟩
                refine ⟨(Or.inr (fun w h A hA => h A (by with_reducible (first | assumption | (repeat first | exact In.there hA | apply In.there))))), ?_⟩
                refine TA.take 20 rfl rfl rfl rfl (by kernel_rfl) (by kernel_rfl) (by kernel_rfl) rfl (by kernel_rfl) (by kernel_rfl) (fun _ _ _ h => h) (Y.buildM rfl rfl Try.underlying120 sz26 zc120 rfl rfl rfl (by first | exact (by simp only [List.all_cons, List.all_nil, Value.oneCell', Bool.and_self]) | rfl)) ?_
                refine TA.one0 21 (by kernel_rfl) rfl rfl rfl (by first | exact X.storeAll rfl sz120 szz rfl rfl (by simp [Value.oneCell']) pul szz | exact X.storeAgg rfl sz120 szz rfl rfl (by simp [Value.oneCell']) pul szz (writeM (by ((try simp only [List.length_set, List.length_map, List.length_append, List.length_replicate]); omega)))) ?_
                rintro _ _ rfl
                refine ⟨(Or.inl (by kernel_rfl)), ?_⟩
                refine TA.done (by kernel_rfl) ?_
                refine TQ.block_normal ?_
                refine TQ.next ?_
                refine TC.region ?_
                refine TL.val rfl rfl rfl (Y.bin rfl rfl rfl (br_addN (n := 1) (by omega))) ?_
                refine TL.val rfl rfl rfl (Y.move rfl rfl) ?_
                refine TL.nil ?_
                refine TQ.loopF (k + 1) (by omega) (by omega) ⟨rfl, trivial⟩ (by (repeat first | apply Grow.refl | apply Grow.step | apply Grow.app)) ?_ ?_ ?_
                · kernel_rfl
                · rfl
                · simp only [List.cons_append, List.nil_append]
                  exact (by rw [show rounds W (s5 H) (k + 1) = step k (W.getD k 0) s by rw [rounds, hS]]; exact ett)
            · try simp only [decide_eq_true_eq, decide_eq_false_iff_not, Bool.not_eq_true', Bool.not_eq_false', Bool.and_eq_true, Bool.or_eq_true, Nat.not_lt, Nat.not_le, beq_iff_eq, bne_iff_ne] at c5
              refine TC.exit ?_
              refine TQ.then_exit ?_
              refine TQ.then_exit ?_
              refine TQ.block_exit ?_
              refine TQ.next ?_
              refine TC.seq ?_
              refine TC.region ?_
              refine TL.val rfl rfl rfl (Y.move rfl rfl) ?_
              refine TL.nil ?_
              refine TQ.next ?_
              refine TC.block ?_
              obtain rfl : k = 80 := by omega
              refine TC.loopF (ι := Nat) [] (fun k => k ≤ 5) (fun k => [(201, some (vN k))]) (fun k => [SA.blk b3 ((adds H s.list k).map v32).toArray 120]) (fun k => 5 - k) (0) (by omega) ⟨rfl, trivial⟩ (Pulls.cons pul Pulls.nil) ?_
              rintro k hk F' L' rfl hL'
              simp only [List.cons_append, List.nil_append] at hL'
              subst hL'
              have hw7 := adds_len H s.list k
              refine TC.seq ?_
              refine TC.region ?_
              refine TL.val rfl rfl rfl (Y.bin rfl rfl rfl (br_ltN (n := 5))) ?_
              refine TL.nil ?_
              refine TQ.next ?_
              refine TC.seq ?_
              refine TC.cond rfl (fun c9 => ?_) (fun c9 => ?_)
              · try simp only [decide_eq_true_eq, decide_eq_false_iff_not, Bool.not_eq_true', Bool.not_eq_false', Bool.and_eq_true, Bool.or_eq_true, Nat.not_lt, Nat.not_le, beq_iff_eq, bne_iff_ne] at c9
                refine TC.skip ?_
                refine TQ.next ?_
                refine TC.seq ?_
                refine TC.block ?_
                refine TC.seq ?_
                refine TC.region ?_
                refine TL.val rfl rfl rfl (Y.move rfl rfl) ?_
                refine TL.val rfl rfl rfl (Y.assign rfl rfl) ?_
                refine TL.nil ?_
                refine TQ.next ?_
                refine TC.draws 9 _ (by kernel_rfl) (by kernel_rfl) (fun _ h => h) ?_
                refine TA.take 0 rfl rfl rfl rfl (by kernel_rfl) (by kernel_rfl) (by kernel_rfl) rfl (by kernel_rfl) (by kernel_rfl) (fun _ _ _ h => h) (Y.move rfl rfl) ?_
                refine TA.take 1 rfl rfl rfl rfl (by kernel_rfl) (by kernel_rfl) (by kernel_rfl) rfl (by kernel_rfl) (by kernel_rfl) (fun _ _ _ h => h) (Y.move rfl rfl) ?_
                refine TA.take 2 rfl rfl rfl rfl (by kernel_rfl) (by kernel_rfl) (by kernel_rfl) rfl (by kernel_rfl) (by kernel_rfl) (fun _ _ _ h => h) (Y.indexArr rfl ar120 rfl rfl (by omega) nqq) ?_
                refine TA.take 3 rfl rfl rfl rfl (by kernel_rfl) (by kernel_rfl) (by kernel_rfl) rfl (by kernel_rfl) (by kernel_rfl) (fun _ _ _ h => h) (Y.load rfl sc26 rfl ceo32) ?_
                refine TA.take 4 rfl rfl rfl rfl (by kernel_rfl) (by kernel_rfl) (by kernel_rfl) rfl (by kernel_rfl) (by kernel_rfl) (fun _ _ _ h => h) (Y.move rfl rfl) ?_
                refine TA.take 5 rfl rfl rfl rfl (by kernel_rfl) (by kernel_rfl) (by kernel_rfl) rfl (by kernel_rfl) (by kernel_rfl) (fun _ _ _ h => h) (Y.indexArr rfl ar120 rfl rfl (by omega) nqq) ?_
                refine TA.take 6 rfl rfl rfl rfl (by kernel_rfl) (by kernel_rfl) (by kernel_rfl) rfl (by kernel_rfl) (by kernel_rfl) (fun _ _ _ h => h) (Y.load rfl sc26 rfl ceo32) ?_
                refine TA.take 7 rfl rfl rfl rfl (by kernel_rfl) (by kernel_rfl) (by kernel_rfl) rfl (by kernel_rfl) (by kernel_rfl) (fun _ _ _ h => h) (Y.bin rfl rfl rfl (br_add32)) ?_
                refine TA.take 8 rfl rfl rfl rfl (by kernel_rfl) (by kernel_rfl) (by kernel_rfl) rfl (by kernel_rfl) (by kernel_rfl) (fun _ _ _ h => h) (Y.indexArr rfl ar120 rfl rfl (by omega) nqq) ?_
                refine TA.one0 9 (by kernel_rfl) rfl rfl rfl (by first | exact X.store rfl sz26 rfl rfl rfl pul lnn (by first | exact setM | rfl) | exact X.storeOwn rfl sz26 rfl (Nat.zero_add _).symm rfl rfl pul lnn (by first | exact setML | rfl) | exact X.storeOwn rfl sz26 rfl rfl rfl rfl pul lnn (by first | exact setML | rfl)) ?_
                rintro _ _ rfl
                refine ⟨(Or.inl (by kernel_rfl)), ?_⟩
                refine TA.done (by kernel_rfl) ?_
                refine TQ.block_normal ?_
                refine TQ.next ?_
                refine TC.region ?_
                refine TL.val rfl rfl rfl (Y.bin rfl rfl rfl (br_addN (n := 1) (by omega))) ?_
                refine TL.val rfl rfl rfl (Y.move rfl rfl) ?_
                refine TL.nil ?_
                refine TQ.loopF (k + 1) (by omega) (by omega) ⟨rfl, trivial⟩ (by (repeat first | apply Grow.refl | apply Grow.step | apply Grow.app)) ?_ ?_ ?_
                · kernel_rfl
                · rfl
                · simp only [List.cons_append, List.nil_append]
                  exact ett
              · try simp only [decide_eq_true_eq, decide_eq_false_iff_not, Bool.not_eq_true', Bool.not_eq_false', Bool.and_eq_true, Bool.or_eq_true, Nat.not_lt, Nat.not_le, beq_iff_eq, bne_iff_ne] at c9
                refine TC.exit ?_
                refine TQ.then_exit ?_
                refine TQ.then_exit ?_
                refine TQ.block_exit ?_
                refine TQ.block_normal ?_
                refine TQ.next ?_
                refine TC.region ?_
                refine TL.val rfl rfl rfl (Y.move rfl rfl) ?_
                refine TL.val rfl rfl rfl (Y.bin rfl rfl rfl (br_addN (n := 64) (by omega))) ?_
                refine TL.val rfl rfl rfl (Y.assign rfl rfl) ?_
                refine TL.nil ?_
                obtain rfl : k = 5 := by omega
                rw [show adds H s.list 5 = runB H0 M (q + 1) by rw [runB, hH, block, hW, hS]]
                refine TQ.loopF (q + 1) (by omega) (by omega) ⟨by rw [Nat.mul_succ]; rfl, trivial⟩ (by (repeat first | apply Grow.refl | apply Grow.step | apply Grow.app)) ?_ ?_ ?_
                · kernel_rfl
                · rfl
                · simp only [List.cons_append, List.nil_append]
                  exact ett
      · try simp only [decide_eq_true_eq, decide_eq_false_iff_not, Bool.not_eq_true', Bool.not_eq_false', Bool.and_eq_true, Bool.or_eq_true, Nat.not_lt, Nat.not_le, beq_iff_eq, bne_iff_ne] at c2
        refine TC.exit ?_
        refine TQ.then_exit ?_
        refine TQ.then_exit ?_
        refine TQ.block_exit ?_
        refine TQ.next ?_
        refine TC.seq ?_
        obtain rfl : q = M.length / 64 := by omega
        generalize hH : runB H0 M (M.length / 64) = H at hrl ⊢
        refine TC.region ?_
        refine TL.eff rfl rfl rfl (X.alloc rfl zc101) ?_
        rintro _ _ ⟨b19, rfl, rfl⟩
        refine TL.nil ?_
        refine TQ.next ?_
        refine TC.seq ?_
        refine TC.seq ?_
        refine TC.region ?_
        refine TL.val rfl rfl rfl (Y.move rfl rfl) ?_
        refine TL.nil ?_
        refine TQ.next ?_
        refine TC.block ?_
        refine TC.loopF (ι := Nat) [] (fun k => k ≤ 20) (fun k => [(214, some (vN k))]) (fun k => [SA.blk b19 ((outN H k).map v8).toArray 101]) (fun k => 20 - k) (0) (by omega) ⟨rfl, trivial⟩ (Pulls.cons pul Pulls.nil) ?_
        rintro k hk F' L' rfl hL'
        simp only [List.cons_append, List.nil_append] at hL'
        subst hL'
        have hol := outN_len H k
        refine TC.seq ?_
        refine TC.region ?_
        refine TL.val rfl rfl rfl (Y.bin rfl rfl rfl (br_ltN (n := 20))) ?_
        refine TL.nil ?_
        refine TQ.next ?_
        refine TC.seq ?_
        refine TC.cond rfl (fun c10 => ?_) (fun c10 => ?_)
        · try simp only [decide_eq_true_eq, decide_eq_false_iff_not, Bool.not_eq_true', Bool.not_eq_false', Bool.and_eq_true, Bool.or_eq_true, Nat.not_lt, Nat.not_le, beq_iff_eq, bne_iff_ne] at c10
          refine TC.skip ?_
          refine TQ.next ?_
          refine TC.seq ?_
          refine TC.block ?_
          refine TC.seq ?_
          refine TC.region ?_
          refine TL.val rfl rfl rfl (Y.move rfl rfl) ?_
          refine TL.val rfl rfl rfl (Y.assign rfl rfl) ?_
          refine TL.nil ?_
          refine TQ.next ?_
          refine TC.region ?_
          refine TL.val rfl rfl rfl (Y.move rfl rfl) ?_
          refine TL.val rfl rfl rfl (Y.move rfl rfl) ?_
          refine TL.val rfl rfl rfl (Y.bin rfl rfl rfl (br_quoN (n := 4) (by omega) (by omega))) ?_
          refine TL.val rfl rfl rfl (Y.indexArr rfl ar120 rfl rfl (by omega) nqq) ?_
          refine TL.val rfl rfl rfl (Y.load rfl sc26 rfl ceo32) ?_
          refine TL.val rfl rfl rfl (Y.move rfl rfl) ?_
          refine TL.val rfl rfl rfl (Y.bin rfl rfl rfl (br_remN (n := 4) (by omega))) ?_
          refine TL.val rfl rfl rfl (Y.bin rfl rfl rfl (br_mulN (m := 8) (by omega))) ?_
          refine TL.val rfl rfl rfl (Y.bin rfl rfl rfl (br_subN (m := 24) (by omega) (by omega))) ?_
          refine TL.val rfl rfl rfl (Y.conv rfl Try.underlying3 Try.underlying80 rfl (cv_N_64n (by omega))) ?_
          refine TL.val rfl rfl rfl (Y.bin rfl rfl rfl (br_shr32)) ?_
          refine TL.val rfl rfl rfl (Y.conv rfl Try.underlying26 Try.underlying5 rfl (cv_32_8)) ?_
          refine TL.val rfl rfl rfl (Y.indexArr rfl ar101 rfl rfl (by omega) nqq) ?_
          refine TL.eff0 rfl rfl (by first | exact X.store rfl sz5 rfl rfl rfl pul lnn (by first | exact setM | rfl) | exact X.storeOwn rfl sz5 rfl (Nat.zero_add _).symm rfl rfl pul lnn (by first | exact setML | rfl) | exact X.storeOwn rfl sz5 rfl rfl rfl rfl pul lnn (by first | exact setML | rfl)) ?_
          rintro _ _ rfl
          refine TL.nil ?_
          refine TQ.block_normal ?_
          refine TQ.next ?_
          refine TC.region ?_
          refine TL.val rfl rfl rfl (Y.bin rfl rfl rfl (br_addN (n := 1) (by omega))) ?_
          refine TL.val rfl rfl rfl (Y.move rfl rfl) ?_
          refine TL.nil ?_
          refine TQ.loopF (k + 1) (by omega) (by omega) ⟨rfl, trivial⟩ (by (repeat first | apply Grow.refl | apply Grow.step | apply Grow.app)) ?_ ?_ ?_
          · kernel_rfl
          · rfl
          · simp only [List.cons_append, List.nil_append]
            exact ett
        · try simp only [decide_eq_true_eq, decide_eq_false_iff_not, Bool.not_eq_true', Bool.not_eq_false', Bool.and_eq_true, Bool.or_eq_true, Nat.not_lt, Nat.not_le, beq_iff_eq, bne_iff_ne] at c10
          refine TC.exit ?_
          refine TQ.then_exit ?_
          refine TQ.then_exit ?_
          refine TQ.block_exit ?_
          refine TQ.next ?_
          refine TC.seq ?_
          obtain rfl : k = 20 := by omega
          have hol := outN_len H 20
          refine TC.region ?_
          refine TL.val rfl rfl rfl (Y.loadAgg rfl ag101 rfl (Cels.full inn) (by ((try simp only [List.length_map, List.length_set, List.length_replicate]); omega))) ?_
          refine TL.eff0 rfl rfl (by first | exact X.storeAll rfl sz101 szz rfl rfl (by simp [Value.oneCell']) pul szz | exact X.storeAgg rfl sz101 szz rfl rfl (by simp [Value.oneCell']) pul szz (writeM (by ((try simp only [List.length_set, List.length_map, List.length_append, List.length_replicate]); omega)))) ?_
          rintro _ _ rfl
          refine TL.nil ?_
          refine TQ.next ?_
          refine TC.ret ?_
          have hsha : sha bs = outN H 20 := by rw [sha, hM, hH]
          rw [← hsha]
          refine TQ.retE (resC rfl ag101 rfl (Cels.full inn) szz) (⟨rfl, rfl⟩) ?_
          exact ett
end sha
end Go.Proofs.Ytpmplnkempcmjaa

/- The HMAC, the program's and the document's. -/
namespace Go.Proofs.Ytpmplnkempcmjaa
set_option linter.unusedVariables false
set_option linter.unusedSimpArgs false
open Go.RowKit
namespace sha
namespace FxShaMac
set_option maxRecDepth 100000
theorem ag101 : Program.aggN Try.prog 101 = some 20 := by kernel_rfl
theorem ar115 : Program.arrI Try.prog 115 = some (64, 1) := by kernel_rfl
theorem ar116 : Program.arrI Try.prog 116 = some (2, 64) := by kernel_rfl
theorem el119 : Elt Try.prog 119 30 1 24 (.slice none 0 0) := ⟨Try.underlying119, by kernel_rfl, rfl, by decide, by simp [Value.cells, Value.oneCell']⟩
theorem sc5 : Program.isSc Try.prog 5 = true := by kernel_rfl
theorem sz101 : (Try.prog.info? 101).map (·.size) = some 20 := by kernel_rfl
theorem sz5 : (Try.prog.info? 5).map (·.size) = some 1 := by kernel_rfl
theorem zc101 : Program.zeroC Try.prog 101 = some ((List.replicate 20 (0 : UInt8)).map v8).toArray := by kernel_rfl
theorem zc116 : Program.zeroC Try.prog 116 = some ((List.replicate 128 (0 : UInt8)).map v8).toArray := by kernel_rfl
theorem zc117 : Program.zeroC Try.prog 117 = some ((List.replicate 2 (0 : UInt8)).map v8).toArray := by kernel_rfl
end FxShaMac
open FxShaMac
def keyed (key : List UInt8) : List UInt8 := if 64 < key.length then sha key else key
def row (kb : List UInt8) (x : UInt8) : List UInt8 := tab 64 fun m => kb.getD m 0 ^^^ x
def mac (key msg : List UInt8) : List UInt8 := sha (row (keyed key) 92 ++ sha (row (keyed key) 54 ++ msg))
theorem mac_len (key msg : List UInt8) : (mac key msg).length = 20 := sha_len _
theorem keyed_len (key : List UInt8) : (keyed key).length ≤ 64 := by
  unfold keyed; split
  · rw [sha_len]; decide
  · omega
def px (i : Nat) : UInt8 := if i = 0 then 54 else 92
/-- the pads: rows before i done, row i up to j -/
def pads (kb : List UInt8) (i j : Nat) : List UInt8 := tab 128 fun m => if m / 64 < i then kb.getD (m % 64) 0 ^^^ px (m / 64) else if m / 64 = i then (if m % 64 < j then kb.getD (m % 64) 0 ^^^ px i else kb.getD (m % 64) 0) else 0
def pads0 (kb : List UInt8) (i : Nat) : List UInt8 := tab 128 fun m => if m / 64 < i then kb.getD (m % 64) 0 ^^^ px (m / 64) else 0
theorem pads0_0 (kb : List UInt8) : List.replicate 128 0 = pads0 kb 0 := by rw [tab_rep, pads0]; exact tab_congr fun i hi => by simp
theorem pads_copy (kb : List UInt8) (i : Nat) (hi : i < 2) (hk : kb.length ≤ 64) : (pads0 kb i).take (i * 64) ++ kb ++ (pads0 kb i).drop (i * 64 + kb.length) = pads kb i 0 := by
  rw [pads0, tab_write (d := 0) (by omega), pads]
  refine tab_congr fun m hm => ?_
  by_cases h1 : i * 64 ≤ m ∧ m < i * 64 + kb.length
  · rw [if_pos h1, if_neg (by omega), if_pos (by omega), if_neg (by omega)]; congr 1; omega
  · rw [if_neg h1]
    by_cases h2 : m / 64 < i
    · rw [if_pos h2, if_pos h2]
    · rw [if_neg h2, if_neg h2]
      by_cases h3 : m / 64 = i
      · rw [if_pos h3, if_neg (by omega), List.getD_eq_getElem?_getD, List.getElem?_eq_none (by omega)]; rfl
      · rw [if_neg h3]
theorem pads_set (kb : List UInt8) (i j : Nat) (hi : i < 2) (hj : j < 64) : (pads kb i j).set (i * 64 + j) ((pads kb i j).getD (i * 64 + j) 0 ^^^ px i) = pads kb i (j + 1) := by
  have e : (pads kb i j).getD (i * 64 + j) 0 = kb.getD j 0 := by
    rw [pads, tab_getD (by omega), if_neg (by omega), if_pos (by omega), if_neg (by omega)]; congr 1; omega
  rw [e, pads, tab_set, pads]
  refine tab_congr fun m hm => ?_
  by_cases h : m = i * 64 + j
  · rw [if_pos h, if_neg (by omega), if_pos (by omega), if_pos (by omega)]; congr 2; omega
  · rw [if_neg h]
    by_cases h2 : m / 64 < i
    · rw [if_pos h2, if_pos h2]
    · rw [if_neg h2, if_neg h2]
      by_cases h3 : m / 64 = i
      · rw [if_pos h3, if_pos h3]
        by_cases h4 : m % 64 < j
        · rw [if_pos h4, if_pos (by omega)]
        · rw [if_neg h4, if_neg (by omega)]
      · rw [if_neg h3, if_neg h3]
theorem pads_64 (kb : List UInt8) (i : Nat) : pads kb i 64 = pads0 kb (i + 1) := by
  rw [pads, pads0]
  refine tab_congr fun m hm => ?_
  by_cases h2 : m / 64 < i
  · rw [if_pos h2, if_pos (by omega)]
  · rw [if_neg h2]
    by_cases h3 : m / 64 = i
    · rw [if_pos h3, if_pos (by omega), if_pos (by omega), h3]
    · rw [if_neg h3, if_neg (by omega)]
theorem pads_len (kb : List UInt8) (i j : Nat) : (pads kb i j).length = 128 := tab_len
theorem pads0_len (kb : List UInt8) (i : Nat) : (pads0 kb i).length = 128 := tab_len
theorem row_len (kb : List UInt8) (x : UInt8) : (row kb x).length = 64 := tab_len
theorem pads0_row (kb : List UInt8) (r : Nat) (hr : r < 2) : ∀ j u, ((row kb (px r)).map v8)[j]? = some u → ((pads0 kb 2).map v8).toArray[r * 64 + j]? = some u := by
  intro j u h
  rw [List.getElem?_toArray]
  rw [List.getElem?_map] at h ⊢
  rw [row, tab_get] at h
  rw [pads0, tab_get]
  split at h
  · rw [if_pos (by omega), if_pos (by omega)]
    rw [show (r * 64 + j) % 64 = j by omega, show (r * 64 + j) / 64 = r by omega]
    exact h
  · cases h
theorem getPx {k : Nat} (h : k < 2) : (#[Value.int .u8 54, Value.int .u8 92] : Array Value)[k]? = some (v8 (px k)) := by
  match k, h with
  | 0, _ => rfl
  | 1, _ => rfl
set_option maxHeartbeats 4000000 in
theorem mac_fn (a : Option Addr) (n cap : Nat) (key : List UInt8) (hn : key.length = n) (am : Option Addr) (nm cm : Nat) (msg : List UInt8) (hm : msg.length = nm) (hln : n ≤ 140737488353000) (hlm : nm ≤ 140737488353000) (L : List SA) :
    Fn Try.prog 49 [.slice a n cap, .slice am nm cm] (SA.rds 1 (.slice a n cap) n (key.map v8) :: SA.rds 1 (.slice am nm cm) nm (msg.map v8) :: L)
      (fun v L' => v = .agg ((mac key msg).map v8).toArray ∧ L' = SA.rds 1 (.slice a n cap) n (key.map v8) :: SA.rds 1 (.slice am nm cm) nm (msg.map v8) :: L) := by
  subst hn; subst hm
  refine Fn.of (N := 52) Try.func49 rfl rfl ?_
  intro Xh
  refine TC.to (Ent.dup Dup.rds) ?_
  refine TC.seq ?_
  refine TC.region ?_
  refine TL.eff rfl rfl rfl (X.alloc rfl zc101) ?_
  rintro _ _ ⟨b4, rfl, rfl⟩
  refine TL.nil ?_
  refine TQ.next ?_
  refine TC.cutF (ι := Option Addr × Nat) [] (fun _ => True) (fun i => [(0, some (.slice i.1 (keyed key).length i.2))]) (fun i => [SA.rds 1 (.slice i.1 (keyed key).length i.2) (keyed key).length ((keyed key).map v8)]) (Ao := [SA.rds 1 (.slice a key.length cap) key.length (key.map v8)]) (Pulls.cons pul Pulls.nil) ?_ ?_
  · rintro L' hL'
    simp only [List.cons_append, List.nil_append] at hL'
    subst hL'
    refine TC.seq ?_
    refine TC.region ?_
    refine TL.val rfl rfl rfl (Y.move rfl rfl) ?_
    refine TL.val rfl rfl rfl (Y.len rfl Try.underlying30 rfl) ?_
    refine TL.val rfl rfl rfl (Y.bin rfl rfl rfl (br_gtN (n := 64))) ?_
    refine TL.nil ?_
    refine TQ.next ?_
    refine TC.cond rfl (fun c0 => ?_) (fun c0 => ?_)
    · try simp only [decide_eq_true_eq, decide_eq_false_iff_not, Bool.not_eq_true', Bool.not_eq_false', Bool.and_eq_true, Bool.or_eq_true, Nat.not_lt, Nat.not_le, beq_iff_eq, bne_iff_ne] at c0
      have hk : keyed key = sha key := if_pos c0
      refine TC.to (Ent.part1 (x := (a, cap, key))) ?_
      refine TC.seq ?_
      refine TC.region ?_
      refine TL.val rfl rfl rfl (Y.move rfl rfl) ?_
      refine TL.eff rfl rfl rfl (X.lit rfl el119 rfl rfl rfl (by decide) rfl) ?_
      rintro _ _ ⟨g15, rfl, rfl⟩
      refine TL.eff rfl rfl rfl (X.call rfl Try.func63 (by kernel_rfl) rfl rfl (Fn.pre (sum_fn _ _ _ _ [(a, cap, key)] _ (Reads.owns (e := 30)) rfl rfl (by simp [cat]; omega) _) (Ent.cons pul (Ent.cons pul Ent.refl)))) ?_
      rintro _ _ ⟨rfl, rfl⟩
      rw [show cat [(a, cap, key)] = key by simp [cat]]
      have hsl := sha_len key
      refine TL.eff rfl rfl rfl (X.alloc rfl zc101) ?_
      rintro _ _ ⟨b5, rfl, rfl⟩
      refine TL.eff0 rfl rfl (by first | exact X.storeAll rfl sz101 szz rfl rfl (by simp [Value.oneCell']) pul szz | exact X.storeAgg rfl sz101 szz rfl rfl (by simp [Value.oneCell']) pul szz (writeM (by ((try simp only [List.length_set, List.length_map, List.length_append, List.length_replicate]); omega)))) ?_
      rintro _ _ rfl
      refine TL.nil ?_
      refine TQ.next ?_
      refine TC.region ?_
      refine TL.val rfl rfl rfl (Y.sliceArr rfl Try.underlying101 sz5 rfl) ?_
      refine TL.val rfl rfl rfl (Y.assign rfl rfl) ?_
      refine TL.nil ?_
      refine TQ.to (Ent.trans (Pull.ent (A := SA.blk b5 _ _) pul) (Ent.freezeB.trans (Ent.rblkRds (sz := 1) (k := 0) (n := 20) (c := 20) (l := (sha key).map v8) (by simp [sha_len]) one8 (Nat.le_refl _) (by decide) (fun j u h => by simpa using h)))) ?_
      refine TQ.meetF ((_, _)) (trivial) (by first | exact ⟨by rw [hk]; rfl, trivial⟩ | exact ⟨by rw [hk, sha_len]; rfl, trivial⟩) (by (repeat first | apply Grow.refl | apply Grow.step | apply Grow.app)) ?_ ?_
      · kernel_rfl
      · simp only [List.cons_append, List.nil_append]
        exact (by first | (rw [hk, sha_len]; exact ett) | (rw [hk]; exact ett))
    · try simp only [decide_eq_true_eq, decide_eq_false_iff_not, Bool.not_eq_true', Bool.not_eq_false', Bool.and_eq_true, Bool.or_eq_true, Nat.not_lt, Nat.not_le, beq_iff_eq, bne_iff_ne] at c0
      have hk : keyed key = key := if_neg (by omega)
      refine TC.skip ?_
      refine TQ.meetF ((_, _)) (trivial) (by first | exact ⟨by rw [hk]; rfl, trivial⟩ | exact ⟨by rw [hk, sha_len]; rfl, trivial⟩) (by (repeat first | apply Grow.refl | apply Grow.step | apply Grow.app)) ?_ ?_
      · kernel_rfl
      · simp only [List.cons_append, List.nil_append]
        exact (by first | (rw [hk, sha_len]; exact ett) | (rw [hk]; exact ett))
  · rintro ⟨ak, ck⟩ - F' L' rfl hL'
    simp only [List.cons_append, List.nil_append] at hL'
    subst hL'
    have hkl := keyed_len key
    generalize hkb : keyed key = kb at hkl ⊢
    refine TC.seq ?_
    refine TC.region ?_
    refine TL.eff rfl rfl rfl (X.alloc rfl zc116) ?_
    rintro _ _ ⟨b6, rfl, rfl⟩
    refine TL.nil ?_
    refine TQ.next ?_
    refine TC.seq ?_
    refine TC.seq ?_
    refine TC.region ?_
    refine TL.val rfl rfl rfl (Y.buildM rfl rfl Try.underlying117 sz5 zc117 rfl rfl rfl (by first | exact (by simp only [List.all_cons, List.all_nil, Value.oneCell', Bool.and_self]) | rfl)) ?_
    refine TL.val rfl rfl rfl (Y.move rfl rfl) ?_
    refine TL.nil ?_
    refine TQ.next ?_
    refine TC.block ?_
    refine TC.loopF (ι := Nat) [] (fun k => k ≤ 2) (fun k => [(19, some (vN k))]) (fun k => [SA.blk b6 ((pads0 kb k).map v8).toArray 116]) (fun k => 2 - k) (0) (by omega) ⟨rfl, trivial⟩ (by rw [← pads0_0]; exact Pulls.cons pul Pulls.nil) ?_
    rintro k hk F' L' rfl hL'
    simp only [List.cons_append, List.nil_append] at hL'
    subst hL'
    have hpl := pads0_len kb k
    refine TC.seq ?_
    refine TC.region ?_
    refine TL.val rfl rfl rfl (Y.bin rfl rfl rfl (br_ltN (n := 2))) ?_
    refine TL.nil ?_
    refine TQ.next ?_
    refine TC.seq ?_
    refine TC.cond rfl (fun c1 => ?_) (fun c1 => ?_)
    · try simp only [decide_eq_true_eq, decide_eq_false_iff_not, Bool.not_eq_true', Bool.not_eq_false', Bool.and_eq_true, Bool.or_eq_true, Nat.not_lt, Nat.not_le, beq_iff_eq, bne_iff_ne] at c1
      refine TC.skip ?_
      refine TQ.next ?_
      refine TC.seq ?_
      refine TC.block ?_
      refine TC.seq ?_
      refine TC.region ?_
      refine TL.val rfl rfl rfl (Y.move rfl rfl) ?_
      refine TL.val rfl rfl rfl (Y.indexAgg rfl Try.underlying117 sc5 sz5 rfl rfl (by omega) (getPx (by omega))) ?_
      refine TL.val rfl rfl rfl (Y.assign rfl rfl) ?_
      refine TL.val rfl rfl rfl (Y.assign rfl rfl) ?_
      refine TL.nil ?_
      refine TQ.next ?_
      refine TC.seq ?_
      refine TC.region ?_
      refine TL.val rfl rfl rfl (Y.move rfl rfl) ?_
      refine TL.val rfl rfl rfl (Y.indexArr rfl ar116 rfl rfl (by omega) nqq) ?_
      refine TL.val rfl rfl rfl (Y.sliceArr rfl Try.underlying115 sz5 rfl) ?_
      refine TL.val rfl rfl rfl (Y.move rfl rfl) ?_
      refine TL.eff rfl rfl rfl (X.copyBlk rfl Try.underlying30 sz5 rfl rfl (Src.rds Try.underlying30 inn) pul (by omega) (by simp [pads0_len]; omega) (by rw [writeAt_list _ _ _ (by simp [pads0_len]; omega)])) ?_
      rintro _ _ ⟨rfl, rfl⟩
      refine TL.nil ?_
      refine TQ.next ?_
      refine TC.seq ?_
      refine TC.region ?_
      refine TL.val rfl rfl rfl (Y.move rfl rfl) ?_
      refine TL.nil ?_
      refine TQ.next ?_
      refine TC.block ?_
      have ep : (List.take (k * 64) (List.map v8 (pads0 kb k)) ++ List.map v8 kb ++ List.drop (k * 64 + (List.map v8 kb).length) (List.map v8 (pads0 kb k))) = List.map v8 (pads kb k 0) := by rw [← pads_copy kb k (by omega) hkl]; simp
      rw [ep]
      refine TC.loopF (ι := Nat) [] (fun j => j ≤ 64) (fun j => [(28, some (vN j))]) (fun j => [SA.blk b6 ((pads kb k j).map v8).toArray 116]) (fun j => 64 - j) (0) (by omega) ⟨rfl, trivial⟩ (Pulls.cons pul Pulls.nil) ?_
      rintro j hj F' L' rfl hL'
      simp only [List.cons_append, List.nil_append] at hL'
      subst hL'
      have hpl2 := pads_len kb k j
      refine TC.seq ?_
      refine TC.region ?_
      refine TL.val rfl rfl rfl (Y.bin rfl rfl rfl (br_ltN (n := 64))) ?_
      refine TL.nil ?_
      refine TQ.next ?_
      refine TC.seq ?_
      refine TC.cond rfl (fun c2 => ?_) (fun c2 => ?_)
      · try simp only [decide_eq_true_eq, decide_eq_false_iff_not, Bool.not_eq_true', Bool.not_eq_false', Bool.and_eq_true, Bool.or_eq_true, Nat.not_lt, Nat.not_le, beq_iff_eq, bne_iff_ne] at c2
        refine TC.skip ?_
        refine TQ.next ?_
        refine TC.seq ?_
        refine TC.block ?_
        refine TC.seq ?_
        refine TC.region ?_
        refine TL.val rfl rfl rfl (Y.move rfl rfl) ?_
        refine TL.val rfl rfl rfl (Y.assign rfl rfl) ?_
        refine TL.nil ?_
        refine TQ.next ?_
        refine TC.draws 9 _ (by kernel_rfl) (by kernel_rfl) (fun _ h => h) ?_
        refine TA.take 0 rfl rfl rfl rfl (by kernel_rfl) (by kernel_rfl) (by kernel_rfl) rfl (by kernel_rfl) (by kernel_rfl) (fun _ _ _ h => h) (Y.move rfl rfl) ?_
        refine TA.take 1 rfl rfl rfl rfl (by kernel_rfl) (by kernel_rfl) (by kernel_rfl) rfl (by kernel_rfl) (by kernel_rfl) (fun _ _ _ h => h) (Y.move rfl rfl) ?_
        refine TA.take 2 rfl rfl rfl rfl (by kernel_rfl) (by kernel_rfl) (by kernel_rfl) rfl (by kernel_rfl) (by kernel_rfl) (fun _ _ _ h => h) (Y.indexArr rfl ar116 rfl rfl (by omega) nqq) ?_
        refine TA.take 3 rfl rfl rfl rfl (by kernel_rfl) (by kernel_rfl) (by kernel_rfl) rfl (by kernel_rfl) (by kernel_rfl) (fun _ _ _ h => h) (Y.indexArr rfl ar115 rfl rfl (by omega) nqq) ?_
        refine TA.take 4 rfl rfl rfl rfl (by kernel_rfl) (by kernel_rfl) (by kernel_rfl) rfl (by kernel_rfl) (by kernel_rfl) (fun _ _ _ h => h) (Y.load rfl sc5 rfl ceo8) ?_
        refine TA.take 5 rfl rfl rfl rfl (by kernel_rfl) (by kernel_rfl) (by kernel_rfl) rfl (by kernel_rfl) (by kernel_rfl) (fun _ _ _ h => h) (Y.move rfl rfl) ?_
        refine TA.take 6 rfl rfl rfl rfl (by kernel_rfl) (by kernel_rfl) (by kernel_rfl) rfl (by kernel_rfl) (by kernel_rfl) (fun _ _ _ h => h) (Y.bin rfl rfl rfl (br_xor8)) ?_
        refine TA.takeP 7 rfl rfl rfl rfl (by kernel_rfl) (by kernel_rfl) (by kernel_rfl) rfl (fun _ _ _ h => h) (Y.indexArr rfl ar116 rfl rfl (by omega) nqq) ?_
        refine TA.take 8 rfl rfl rfl rfl (by kernel_rfl) (by kernel_rfl) (by kernel_rfl) rfl (by kernel_rfl) (by kernel_rfl) (fun _ _ _ h => h) (Y.indexArr rfl ar115 rfl rfl (by omega) nqq) ?_
        refine TA.one0 9 (by kernel_rfl) rfl rfl rfl (by first | exact X.store rfl sz5 rfl rfl rfl pul lnn (by first | exact setM | rfl) | exact X.storeOwn rfl sz5 rfl (Nat.zero_add _).symm rfl rfl pul lnn (by first | exact setML | rfl) | exact X.storeOwn rfl sz5 rfl rfl rfl rfl pul lnn (by first | exact setML | rfl)) ?_
        rintro _ _ rfl
        refine ⟨(Or.inl (by kernel_rfl)), ?_⟩
        refine TA.done (by kernel_rfl) ?_
        refine TQ.block_normal ?_
        refine TQ.next ?_
        refine TC.region ?_
        refine TL.val rfl rfl rfl (Y.bin rfl rfl rfl (br_addN (n := 1) (by omega))) ?_
        refine TL.val rfl rfl rfl (Y.move rfl rfl) ?_
        refine TL.nil ?_
        refine TQ.loopF (j + 1) (by omega) (by omega) ⟨rfl, trivial⟩ (by (repeat first | apply Grow.refl | apply Grow.step | apply Grow.app)) ?_ ?_ ?_
        · kernel_rfl
        · rfl
        · simp only [List.cons_append, List.nil_append]
          exact (by rw [← pads_set kb k j (by omega) (by omega)]; exact ett)
      · try simp only [decide_eq_true_eq, decide_eq_false_iff_not, Bool.not_eq_true', Bool.not_eq_false', Bool.and_eq_true, Bool.or_eq_true, Nat.not_lt, Nat.not_le, beq_iff_eq, bne_iff_ne] at c2
        refine TC.exit ?_
        refine TQ.then_exit ?_
        refine TQ.then_exit ?_
        refine TQ.block_exit ?_
        refine TQ.block_normal ?_
        refine TQ.next ?_
        refine TC.region ?_
        refine TL.val rfl rfl rfl (Y.bin rfl rfl rfl (br_addN (n := 1) (by omega))) ?_
        refine TL.val rfl rfl rfl (Y.move rfl rfl) ?_
        refine TL.nil ?_
        obtain rfl : j = 64 := by omega
        rw [pads_64]
        refine TQ.loopF (k + 1) (by omega) (by omega) ⟨rfl, trivial⟩ (by (repeat first | apply Grow.refl | apply Grow.step | apply Grow.app)) ?_ ?_ ?_
        · kernel_rfl
        · rfl
        · simp only [List.cons_append, List.nil_append]
          exact ett
    · try simp only [decide_eq_true_eq, decide_eq_false_iff_not, Bool.not_eq_true', Bool.not_eq_false', Bool.and_eq_true, Bool.or_eq_true, Nat.not_lt, Nat.not_le, beq_iff_eq, bne_iff_ne] at c1
      refine TC.exit ?_
      refine TQ.then_exit ?_
      refine TQ.then_exit ?_
      refine TQ.block_exit ?_
      refine TQ.next ?_
      refine TC.seq ?_
      obtain rfl : k = 2 := by omega
      have hr0 := row_len kb 54
      have hr1 := row_len kb 92
      refine TC.to (Ent.trans (Pull.ent (A := SA.blk b6 _ _) pul) (Ent.freezeB.trans ((Ent.dup Dup.rblk).trans (Ent.rblkRds (sz := 1) (k := 0) (n := 64) (c := 64) (l := (row kb 54).map v8) (by simp [hr0]) one8 (Nat.le_refl _) (by decide) (fun j u h => by have := pads0_row kb 0 (by decide) j u h; simpa using this))))) ?_
      refine TC.to (Ent.trans (Pull.ent (A := SA.rds 1 (.slice am _ _) _ _) pul) Ent.swap) ?_
      refine TC.to (Ent.trans (by rw [show (64 : Nat) = (row kb 54).length from hr0.symm]; exact Ent.refl) (Ent.part2 (x := (some ⟨b6, 0, none⟩, 64, row kb 54)) (z := (am, cm, msg)))) ?_
      refine TC.region ?_
      refine TL.val rfl rfl rfl (Y.indexArr (j := 0) rfl ar116 rfl rfl (by omega) nqq) ?_
      refine TL.val rfl rfl rfl (Y.sliceArr rfl Try.underlying115 sz5 rfl) ?_
      refine TL.val rfl rfl rfl (Y.move rfl rfl) ?_
      refine TL.eff rfl rfl rfl (X.lit rfl el119 rfl rfl rfl (by decide) rfl) ?_
      rintro _ _ ⟨g45, rfl, rfl⟩
      refine TL.eff rfl rfl rfl (X.call rfl Try.func63 (by kernel_rfl) rfl rfl (Fn.pre (sum_fn _ _ _ _ [(some ⟨b6, 0, none⟩, 64, row kb 54), (am, cm, msg)] [.slice (some ⟨b6, 0, none⟩) 64 64, .slice am msg.length cm] (Reads.owns (e := 30)) (by simp [pv, hr0]) rfl (by simp [cat, hr0]; omega) _) (Ent.cons pul (Ent.cons pul Ent.refl)))) ?_
      rintro _ _ ⟨rfl, rfl⟩
      rw [show cat [(some ⟨b6, 0, none⟩, 64, row kb 54), (am, cm, msg)] = row kb 54 ++ msg by simp [cat]]
      have hsl := sha_len (row kb 54 ++ msg)
      generalize hH : sha (row kb 54 ++ msg) = h at hsl ⊢
      refine TL.eff rfl rfl rfl (X.alloc rfl zc101) ?_
      rintro _ _ ⟨b10, rfl, rfl⟩
      refine TL.eff0 rfl rfl (by first | exact X.storeAll rfl sz101 szz rfl rfl (by simp [Value.oneCell']) pul szz | exact X.storeAgg rfl sz101 szz rfl rfl (by simp [Value.oneCell']) pul szz (writeM (by ((try simp only [List.length_set, List.length_map, List.length_append, List.length_replicate]); omega)))) ?_
      rintro _ _ rfl
      refine TL.nil ?_
      refine TQ.next ?_
      refine TC.seq ?_
      refine TC.to (Ent.trans (Pull.ent (A := SA.blk b10 _ _) pul) (Ent.freezeB.trans (Ent.rblkRds (sz := 1) (k := 0) (n := h.length) (c := 20) (l := h.map v8) (by simp) one8 (by omega) (by decide) (fun j u h => by simpa using h)))) ?_
      refine TC.to (Ent.trans (Pull.ent (A := SA.rblk b6 _ _) pul) (Ent.rblkRds (sz := 1) (k := 64) (n := (row kb 92).length) (c := 64) (l := (row kb 92).map v8) (by simp) one8 (by omega) (by decide) (fun j u h => by have := pads0_row kb 1 (by decide) j u h; simpa using this))) ?_
      refine TC.to (Ent.part2 (x := (some ⟨b6, 64, none⟩, 64, row kb 92)) (z := (some ⟨b10, 0, none⟩, 20, h))) ?_
      refine TC.draws 5 [] (by kernel_rfl) (by kernel_rfl) (fun _ _ A hA => by cases hA) ?_
      refine TA.take 0 rfl rfl rfl rfl (by kernel_rfl) (by kernel_rfl) (by kernel_rfl) rfl (by kernel_rfl) (by kernel_rfl) (fun _ _ _ h => h) (Y.indexArr (j := 1) rfl ar116 rfl rfl (by omega) nqq) ?_
      refine TA.take 1 rfl rfl rfl rfl (by kernel_rfl) (by kernel_rfl) (by kernel_rfl) rfl (by kernel_rfl) (by kernel_rfl) (fun _ _ _ h => h) (Y.sliceArr rfl Try.underlying115 sz5 rfl) ?_
      refine TA.take 2 rfl rfl rfl rfl (by kernel_rfl) (by kernel_rfl) (by kernel_rfl) rfl (by kernel_rfl) (by kernel_rfl) (fun _ _ _ h => h) (Y.sliceArr rfl Try.underlying101 sz5 rfl) ?_
      refine TA.one 3 (by kernel_rfl) rfl rfl rfl rfl (X.lit rfl el119 rfl rfl rfl (by decide) rfl) ?_
      rintro _ _ ⟨g50, rfl, rfl⟩
      refine ⟨(Or.inr (fun w h A hA => by cases hA)), ?_⟩
      refine TA.one 4 (by kernel_rfl) rfl rfl rfl rfl (X.call rfl Try.func63 (by kernel_rfl) rfl rfl (Fn.pre (sum_fn _ _ _ _ [(some ⟨b6, 64, none⟩, 64, row kb 92), (some ⟨b10, 0, none⟩, 20, h)] [.slice (some ⟨b6, 64, none⟩) 64 64, .slice (some ⟨b10, 0, none⟩) 20 20] (Reads.owns (e := 30)) (by simp [pv, hr1, hsl]) rfl (by simp [cat, hr1, hsl]) _) (Ent.cons pul (Ent.cons pul Ent.refl)))) ?_
      rintro _ _ ⟨rfl, rfl⟩
      rw [show cat [(some ⟨b6, 64, none⟩, 64, row kb 92), (some ⟨b10, 0, none⟩, 20, h)] = row kb 92 ++ h by simp [cat]]
      have hsl2 := sha_len (row kb 92 ++ h)
      refine ⟨(Or.inr (fun w h A hA => by cases hA)), ?_⟩
      refine TA.one0 5 (by kernel_rfl) rfl rfl rfl (by first | exact X.storeAll rfl sz101 szz rfl rfl (by simp [Value.oneCell']) pul szz | exact X.storeAgg rfl sz101 szz rfl rfl (by simp [Value.oneCell']) pul szz (writeM (by ((try simp only [List.length_set, List.length_map, List.length_append, List.length_replicate]); omega)))) ?_
      rintro _ _ rfl
      refine ⟨(Or.inl (by kernel_rfl)), ?_⟩
      refine TA.done (by kernel_rfl) ?_
      refine TQ.next ?_
      refine TC.ret ?_
      refine TQ.retE (resC rfl ag101 rfl (Cels.full inn) szz) (⟨by rw [mac, hkb, hH], rfl⟩) ?_
      exact ett
end sha
end Go.Proofs.Ytpmplnkempcmjaa

/- The document's HMAC. -/
namespace Go.Proofs.Ytpmplnkempcmjaa
set_option linter.unusedVariables false
set_option linter.unusedSimpArgs false
open Go.RowKit
namespace sha
namespace FxShaRefMac
set_option maxRecDepth 100000
theorem ag101 : Program.aggN Try.prog 101 = some 20 := by kernel_rfl
theorem ar115 : Program.arrI Try.prog 115 = some (64, 1) := by kernel_rfl
theorem el30 : Elt Try.prog 30 5 1 1 (.int .u8 0) := ⟨Try.underlying30, by kernel_rfl, rfl, by decide, by simp [Value.cells, Value.oneCell']⟩
theorem sc5 : Program.isSc Try.prog 5 = true := by kernel_rfl
theorem sz101 : (Try.prog.info? 101).map (·.size) = some 20 := by kernel_rfl
theorem sz5 : (Try.prog.info? 5).map (·.size) = some 1 := by kernel_rfl
theorem zc101 : Program.zeroC Try.prog 101 = some ((List.replicate 20 (0 : UInt8)).map v8).toArray := by kernel_rfl
theorem zc115 : Program.zeroC Try.prog 115 = some ((List.replicate 64 (0 : UInt8)).map v8).toArray := by kernel_rfl
end FxShaRefMac
open FxShaRefMac
theorem Src.blk {P : Program} {As : List SA} {sz n c b k t tx e' : Nat} {cs : Array Value} {l : List Value} (hk : P.underlying tx = some (.slice e')) (h : In (SA.blk b cs t) As) (hl : l.length = n * sz) (h1 : ∀ u ∈ l, u.oneCell' = true) (hv : ∀ j u, l[j]? = some u → cs[k + j]? = some u) :
    ∀ w, Holds As w → Src P sz tx (.slice (some ⟨b, k, none⟩) n c) n l w := fun w hw => by
  obtain ⟨O, R, hb⟩ := hw _ h
  exact Src.ofSlice w hk _ n c l hl (fun j u hj => by rw [Addr.add_lit, hb.2.cell]; exact hv j u hj) h1
def kt (kb : List UInt8) : List UInt8 := tab 64 fun m => kb.getD m 0
theorem kt_len (kb : List UInt8) : (kt kb).length = 64 := tab_len
theorem kt_copy (kb : List UInt8) (hk : kb.length ≤ 64) : writeAt ((List.replicate 64 (0 : UInt8)).map v8).toArray 0 (kb.map v8) = ((kt kb).map v8).toArray := by
  rw [writeAt_list _ _ _ (by simp; omega), ← List.map_take, ← List.map_drop, ← List.map_append, ← List.map_append, tab_rep]
  have := tab_write (n := 64) (k := 0) (f := fun _ => (0 : UInt8)) (xs := kb) (d := 0) (by omega)
  simp only [List.length_map]
  rw [this]
  refine congrArg (fun l => (List.map v8 l).toArray) (tab_congr fun m hm => ?_)
  by_cases h : m < kb.length
  · rw [if_pos (by omega)]; congr 1
  · rw [if_neg (by omega), List.getD_eq_getElem?_getD, List.getElem?_eq_none (by omega)]; rfl
def rj (kb : List UInt8) (x : UInt8) (j : Nat) : List UInt8 := tab j fun m => kb.getD m 0 ^^^ x
theorem rj_s (kb : List UInt8) (x : UInt8) (j : Nat) (hj : j < 64) : List.map v8 (rj kb x j) ++ [v8 ((kt kb).getD j 0 ^^^ x)] = List.map v8 (rj kb x (j + 1)) := by
  rw [rj, rj, tab_succ, kt, tab_getD hj]; simp
set_option maxHeartbeats 4000000 in
theorem refMac_fn (a : Option Addr) (n cap : Nat) (key : List UInt8) (hn : key.length = n) (am : Option Addr) (nm cm : Nat) (msg : List UInt8) (hm : msg.length = nm) (hln : n ≤ 140737488353000) (hlm : nm ≤ 140737488353000) (L : List SA) :
    Fn Try.prog 52 [.slice a n cap, .slice am nm cm] (SA.rds 1 (.slice a n cap) n (key.map v8) :: SA.rds 1 (.slice am nm cm) nm (msg.map v8) :: L)
      (fun v L' => v = .agg ((mac key msg).map v8).toArray ∧ L' = SA.rds 1 (.slice a n cap) n (key.map v8) :: SA.rds 1 (.slice am nm cm) nm (msg.map v8) :: L) := by
  subst hn; subst hm
  refine Fn.of (N := 48) Try.func52 rfl rfl ?_
  intro Xh
  refine TC.seq ?_
  refine TC.region ?_
  refine TL.eff rfl rfl rfl (X.alloc rfl zc101) ?_
  rintro _ _ ⟨b4, rfl, rfl⟩
  refine TL.nil ?_
  refine TQ.next ?_
  refine TC.seq ?_
  refine TC.region ?_
  refine TL.eff rfl rfl rfl (X.alloc rfl zc115) ?_
  rintro _ _ ⟨b5, rfl, rfl⟩
  refine TL.nil ?_
  refine TQ.next ?_
  refine TC.cutF (ι := Unit) [] (fun _ => True) (fun _ => []) (fun _ => [SA.blk b5 ((kt (keyed key)).map v8).toArray 115]) (Ao := [SA.blk b5 ((List.replicate 64 (0 : UInt8)).map v8).toArray 115]) (Pulls.cons pul Pulls.nil) ?_ ?_
  · rintro L' hL'
    simp only [List.cons_append, List.nil_append] at hL'
    subst hL'
    refine TC.seq ?_
    refine TC.region ?_
    refine TL.val rfl rfl rfl (Y.move rfl rfl) ?_
    refine TL.val rfl rfl rfl (Y.len rfl Try.underlying30 rfl) ?_
    refine TL.val rfl rfl rfl (Y.bin rfl rfl rfl (br_gtN (n := 64))) ?_
    refine TL.nil ?_
    refine TQ.next ?_
    refine TC.cond rfl (fun c0 => ?_) (fun c0 => ?_)
    · try simp only [decide_eq_true_eq, decide_eq_false_iff_not, Bool.not_eq_true', Bool.not_eq_false', Bool.and_eq_true, Bool.or_eq_true, Nat.not_lt, Nat.not_le, beq_iff_eq, bne_iff_ne] at c0
      have hk : keyed key = sha key := if_pos c0
      have hsl := sha_len key
      refine TC.seq ?_
      refine TC.region ?_
      refine TL.val rfl rfl rfl (Y.move rfl rfl) ?_
      refine TL.eff rfl rfl rfl (X.call rfl Try.func64 (by kernel_rfl) rfl rfl (Fn.pre (refSum_fn (SA.rds 1 (.slice a key.length cap) key.length (key.map v8)) _ _ _ key Reads.rds rfl (by omega) _) (Ent.cons pul Ent.refl))) ?_
      rintro _ _ ⟨rfl, rfl⟩
      refine TL.eff rfl rfl rfl (X.alloc rfl zc101) ?_
      rintro _ _ ⟨b6, rfl, rfl⟩
      refine TL.eff0 rfl rfl (by first | exact X.storeAll rfl sz101 szz rfl rfl (by simp [Value.oneCell']) pul szz | exact X.storeAgg rfl sz101 szz rfl rfl (by simp [Value.oneCell']) pul szz (writeM (by ((try simp only [List.length_set, List.length_map, List.length_append, List.length_replicate]); omega)))) ?_
      rintro _ _ rfl
      refine TL.nil ?_
      refine TQ.next ?_
      refine TC.draws 2 [] (by kernel_rfl) (by kernel_rfl) (fun _ _ A hA => by cases hA) ?_
      refine TA.take 0 rfl rfl rfl rfl (by kernel_rfl) (by kernel_rfl) (by kernel_rfl) rfl (by kernel_rfl) (by kernel_rfl) (fun _ _ _ h => h) (Y.sliceArr rfl Try.underlying115 sz5 rfl) ?_
      refine TA.take 1 rfl rfl rfl rfl (by kernel_rfl) (by kernel_rfl) (by kernel_rfl) rfl (by kernel_rfl) (by kernel_rfl) (fun _ _ _ h => h) (Y.sliceArr rfl Try.underlying101 sz5 rfl) ?_
      refine TA.one 2 (by kernel_rfl) rfl rfl rfl rfl (X.copyBlk rfl Try.underlying30 sz5 rfl rfl (Src.blk (l := (sha key).map v8) Try.underlying30 inn (by simp [hsl]) one8 (fun j u h => by simpa using h)) pul (by decide) (by simp) (kt_copy _ (by omega))) ?_
      rintro _ _ ⟨rfl, rfl⟩
      refine ⟨(Or.inr (fun w h A hA => by cases hA)), ?_⟩
      refine TA.done (by kernel_rfl) ?_
      refine TQ.meetF (ι := Unit) (I := fun _ => True) (C := fun (_ : Unit) => []) (U := []) (()) (trivial) trivial (by (repeat first | apply Grow.refl | apply Grow.step | apply Grow.app)) ?_ ?_
      · kernel_rfl
      · simp only [List.cons_append, List.nil_append]
        exact (by rw [hk]; exact ett)
    · try simp only [decide_eq_true_eq, decide_eq_false_iff_not, Bool.not_eq_true', Bool.not_eq_false', Bool.and_eq_true, Bool.or_eq_true, Nat.not_lt, Nat.not_le, beq_iff_eq, bne_iff_ne] at c0
      have hk : keyed key = key := if_neg (by omega)
      refine TC.region ?_
      refine TL.val rfl rfl rfl (Y.sliceArr rfl Try.underlying115 sz5 rfl) ?_
      refine TL.val rfl rfl rfl (Y.move rfl rfl) ?_
      refine TL.eff rfl rfl rfl (X.copyBlk rfl Try.underlying30 sz5 rfl rfl (Src.rds Try.underlying30 inn) pul (by omega) (by simp; omega) (kt_copy _ (by omega))) ?_
      rintro _ _ ⟨rfl, rfl⟩
      refine TL.nil ?_
      refine TQ.meetF (ι := Unit) (I := fun _ => True) (C := fun (_ : Unit) => []) (U := []) (()) (trivial) trivial (by (repeat first | apply Grow.refl | apply Grow.step | apply Grow.app)) ?_ ?_
      · kernel_rfl
      · simp only [List.cons_append, List.nil_append]
        exact (by rw [hk]; exact ett)
  · rintro ⟨⟩ - F' L' rfl hL'
    simp only [List.cons_append, List.nil_append] at hL'
    subst hL'
    have hkl := keyed_len key
    generalize hkb : keyed key = kb at hkl ⊢
    have hkt := kt_len kb
    refine TC.to ((Ent.nilOwn 5 1).trans (Ent.nilOwn 5 1)) ?_
    refine TC.seq ?_
    refine TC.region ?_
    refine TL.val rfl rfl rfl (Y.assign rfl rfl) ?_
    refine TL.val rfl rfl rfl (Y.assign rfl rfl) ?_
    refine TL.nil ?_
    refine TQ.next ?_
    refine TC.seq ?_
    refine TC.seq ?_
    refine TC.region ?_
    refine TL.val rfl rfl rfl (Y.move rfl rfl) ?_
    refine TL.nil ?_
    refine TQ.next ?_
    refine TC.block ?_
    refine TC.loopF (ι := Nat × (Option Addr × Nat) × (Option Addr × Nat)) [] (fun i => i.1 ≤ 64) (fun i => [(22, some (vN i.1)), (7, some (.slice i.2.1.1 i.1 i.2.1.2)), (8, some (.slice i.2.2.1 i.1 i.2.2.2))]) (fun i => [SA.owns 5 1 (.slice i.2.1.1 i.1 i.2.1.2) i.1 ((rj kb 54 i.1).map v8), SA.owns 5 1 (.slice i.2.2.1 i.1 i.2.2.2) i.1 ((rj kb 92 i.1).map v8)]) (fun i => 64 - i.1) ((0, (none, 0), (none, 0))) (by omega) ⟨rfl, rfl, rfl, trivial⟩ (Pulls.cons pul (Pulls.cons pul Pulls.nil)) ?_
    rintro ⟨j, ⟨ai, ci⟩, ⟨ao, co⟩⟩ hj F' L' rfl hL'
    simp only [List.cons_append, List.nil_append] at hL'
    subst hL'
    dsimp only at hj ⊢
    refine TC.seq ?_
    refine TC.region ?_
    refine TL.val rfl rfl rfl (Y.bin rfl rfl rfl (br_ltN (n := 64))) ?_
    refine TL.nil ?_
    refine TQ.next ?_
    refine TC.seq ?_
    refine TC.cond rfl (fun c1 => ?_) (fun c1 => ?_)
    · try simp only [decide_eq_true_eq, decide_eq_false_iff_not, Bool.not_eq_true', Bool.not_eq_false', Bool.and_eq_true, Bool.or_eq_true, Nat.not_lt, Nat.not_le, beq_iff_eq, bne_iff_ne] at c1
      refine TC.skip ?_
      refine TQ.next ?_
      refine TC.seq ?_
      refine TC.block ?_
      refine TC.seq ?_
      refine TC.region ?_
      refine TL.val rfl rfl rfl (Y.move rfl rfl) ?_
      refine TL.val rfl rfl rfl (Y.assign rfl rfl) ?_
      refine TL.nil ?_
      refine TQ.next ?_
      refine TC.seq ?_
      refine TC.region ?_
      refine TL.val rfl rfl rfl (Y.move rfl rfl) ?_
      refine TL.val rfl rfl rfl (Y.move rfl rfl) ?_
      refine TL.val rfl rfl rfl (Y.indexArr rfl ar115 rfl rfl (by omega) nqq) ?_
      refine TL.val rfl rfl rfl (Y.load rfl sc5 rfl ceo8) ?_
      refine TL.val rfl rfl rfl (Y.bin rfl rfl rfl (br_xor8 (y := 54))) ?_
      refine TL.eff rfl rfl rfl (X.lit rfl el30 rfl rfl rfl (by decide) rfl) ?_
      rintro _ _ ⟨g30, rfl, rfl⟩
      refine TL.eff rfl rfl rfl (X.appendS rfl el30 rfl pul rfl (by first | exact Src.owns Try.underlying30 inn | exact Src.rds Try.underlying30 inn | exact Src.reads (by assumption) Try.underlying30 inn) (by simp only [maxLen]; omega) (by omega)) ?_
      rintro _ _ ⟨a31, c31, rfl, rfl⟩
      refine TL.val rfl rfl rfl (Y.assign rfl rfl) ?_
      refine TL.nil ?_
      refine TQ.next ?_
      refine TC.region ?_
      refine TL.val rfl rfl rfl (Y.move rfl rfl) ?_
      refine TL.val rfl rfl rfl (Y.move rfl rfl) ?_
      refine TL.val rfl rfl rfl (Y.indexArr rfl ar115 rfl rfl (by omega) nqq) ?_
      refine TL.val rfl rfl rfl (Y.load rfl sc5 rfl ceo8) ?_
      refine TL.val rfl rfl rfl (Y.bin rfl rfl rfl (br_xor8 (y := 92))) ?_
      refine TL.eff rfl rfl rfl (X.lit rfl el30 rfl rfl rfl (by decide) rfl) ?_
      rintro _ _ ⟨g37, rfl, rfl⟩
      refine TL.eff rfl rfl rfl (X.appendS rfl el30 rfl pul rfl (by first | exact Src.owns Try.underlying30 inn | exact Src.rds Try.underlying30 inn | exact Src.reads (by assumption) Try.underlying30 inn) (by simp only [maxLen]; omega) (by omega)) ?_
      rintro _ _ ⟨a38, c38, rfl, rfl⟩
      refine TL.val rfl rfl rfl (Y.assign rfl rfl) ?_
      refine TL.nil ?_
      refine TQ.block_normal ?_
      refine TQ.next ?_
      refine TC.region ?_
      refine TL.val rfl rfl rfl (Y.bin rfl rfl rfl (br_addN (n := 1) (by omega))) ?_
      refine TL.val rfl rfl rfl (Y.move rfl rfl) ?_
      refine TL.nil ?_
      rw [rj_s kb 54 j (by omega), rj_s kb 92 j (by omega)]
      refine TQ.loopF ((j + 1, (_, _), (_, _))) (by show j + 1 ≤ 64; omega) (by show 64 - (j + 1) < 64 - j; omega) ⟨rfl, rfl, rfl, trivial⟩ (by (repeat first | apply Grow.refl | apply Grow.step | apply Grow.app)) ?_ ?_ ?_
      · kernel_rfl
      · rfl
      · simp only [List.cons_append, List.nil_append]
        exact ett
    · try simp only [decide_eq_true_eq, decide_eq_false_iff_not, Bool.not_eq_true', Bool.not_eq_false', Bool.and_eq_true, Bool.or_eq_true, Nat.not_lt, Nat.not_le, beq_iff_eq, bne_iff_ne] at c1
      refine TC.exit ?_
      refine TQ.then_exit ?_
      refine TQ.then_exit ?_
      refine TQ.block_exit ?_
      refine TQ.next ?_
      refine TC.seq ?_
      obtain rfl : j = 64 := by omega
      rw [show rj kb 54 64 = row kb 54 from rfl, show rj kb 92 64 = row kb 92 from rfl]
      have hr0 := row_len kb 54
      have hr1 := row_len kb 92
      refine TC.region ?_
      refine TL.val rfl rfl rfl (Y.move rfl rfl) ?_
      refine TL.val rfl rfl rfl (Y.move rfl rfl) ?_
      refine TL.eff rfl rfl rfl (X.appendS rfl el30 rfl pul rfl (by first | exact Src.owns Try.underlying30 inn | exact Src.rds Try.underlying30 inn | exact Src.reads (by assumption) Try.underlying30 inn) (by simp only [maxLen]; omega) (by omega)) ?_
      rintro _ _ ⟨a42, c42, rfl, rfl⟩
      rw [← List.map_append]
      refine TL.eff rfl rfl rfl (X.call rfl Try.func64 (by kernel_rfl) rfl rfl (Fn.pre (refSum_fn (SA.owns 5 1 (.slice a42 _ c42) _ ((row kb 54 ++ msg).map v8)) _ _ _ (row kb 54 ++ msg) Reads.owns (by simp [hr0]) (by omega) _) (Ent.cons pul Ent.refl))) ?_
      rintro _ _ ⟨rfl, rfl⟩
      have hsl := sha_len (row kb 54 ++ msg)
      generalize hH : sha (row kb 54 ++ msg) = h at hsl ⊢
      refine TL.eff rfl rfl rfl (X.alloc rfl zc101) ?_
      rintro _ _ ⟨b10, rfl, rfl⟩
      refine TL.eff0 rfl rfl (by first | exact X.storeAll rfl sz101 szz rfl rfl (by simp [Value.oneCell']) pul szz | exact X.storeAgg rfl sz101 szz rfl rfl (by simp [Value.oneCell']) pul szz (writeM (by ((try simp only [List.length_set, List.length_map, List.length_append, List.length_replicate]); omega)))) ?_
      rintro _ _ rfl
      refine TL.nil ?_
      refine TQ.next ?_
      refine TC.seq ?_
      refine TC.region ?_
      refine TL.val rfl rfl rfl (Y.move rfl rfl) ?_
      refine TL.val rfl rfl rfl (Y.sliceArr rfl Try.underlying101 sz5 rfl) ?_
      refine TL.eff rfl rfl rfl (X.appendS rfl el30 rfl pul rfl (Src.blk (l := h.map v8) Try.underlying30 inn (by simp [hsl]) one8 (fun j u h => by simpa using h)) (by simp only [maxLen]; omega) (by omega)) ?_
      rintro _ _ ⟨a46, c46, rfl, rfl⟩
      rw [← List.map_append]
      refine TL.eff rfl rfl rfl (X.call rfl Try.func64 (by kernel_rfl) rfl rfl (Fn.pre (refSum_fn (SA.owns 5 1 (.slice a46 _ c46) _ ((row kb 92 ++ h).map v8)) _ _ _ (row kb 92 ++ h) Reads.owns (by simp [hr1, hsl]) (by omega) _) (Ent.cons pul Ent.refl))) ?_
      rintro _ _ ⟨rfl, rfl⟩
      have hsl2 := sha_len (row kb 92 ++ h)
      refine TL.eff0 rfl rfl (by first | exact X.storeAll rfl sz101 szz rfl rfl (by simp [Value.oneCell']) pul szz | exact X.storeAgg rfl sz101 szz rfl rfl (by simp [Value.oneCell']) pul szz (writeM (by ((try simp only [List.length_set, List.length_map, List.length_append, List.length_replicate]); omega)))) ?_
      rintro _ _ rfl
      refine TL.nil ?_
      refine TQ.next ?_
      refine TC.ret ?_
      refine TQ.retE (resC rfl ag101 rfl (Cels.full inn) szz) (⟨by rw [mac, hkb, hH], rfl⟩) ?_
      exact ett
end sha
end Go.Proofs.Ytpmplnkempcmjaa

/- The CRC, the program's and the document's. -/
namespace Go.Proofs.Ytpmplnkempcmjaa
set_option linter.unusedVariables false
set_option linter.unusedSimpArgs false
open Go.RowKit
namespace sha
namespace FxShaCrc
set_option maxRecDepth 100000
theorem sc5 : Program.isSc Try.prog 5 = true := by kernel_rfl
theorem sl30 : Program.slI Try.prog 30 = some 1 := by kernel_rfl
end FxShaCrc
open FxShaCrc
def cstep (c : UInt32) : UInt32 := shr32 c 1 ^^^ (-(c &&& 1) &&& 3988292384)
theorem cstep_eq (c : UInt32) : cstep c = shr32 c 1 ^^^ 3988292384 * (c &&& 1) := by
  have h : (c &&& 1) = 0 ∨ (c &&& 1) = 1 := by
    have := Nat.and_two_pow_sub_one_eq_mod c.toNat 1
    have h2 : (c &&& 1).toNat = c.toNat % 2 := by rw [UInt32.toNat_and]; exact this
    rcases Nat.mod_two_eq_zero_or_one c.toNat with h | h
    · left; apply UInt32.toNat_inj.1; rw [h2, h]; rfl
    · right; apply UInt32.toNat_inj.1; rw [h2, h]; rfl
  rw [cstep]
  rcases h with h | h <;> rw [h] <;> rfl
def iterC (c : UInt32) : Nat → UInt32
  | 0 => c
  | k + 1 => cstep (iterC c k)
def crcN (bs : List UInt8) : Nat → UInt32
  | 0 => 4294967295
  | k + 1 => iterC (crcN bs k ^^^ (bs.getD k 0).toUInt32) 8
def crc (bs : List UInt8) : UInt32 := ~~~(crcN bs bs.length)
set_option maxHeartbeats 1000000 in
theorem crc_fn (A : SA) (a : Option Addr) (n cap : Nat) (bs : List UInt8) (hA : Reads A 1 (.slice a n cap) n (bs.map v8)) (hn : bs.length = n) (L : List SA) :
    Fn Try.prog 50 [.slice a n cap] (A :: L) (fun v L' => v = v32 (crc bs) ∧ L' = A :: L) := by
  subst hn
  refine Fn.of (N := 31) Try.func50 rfl rfl ?_
  intro Xh
  refine TC.know (reads_cap hA inn) ?_
  rintro ⟨hmc, hcm, -, hnone⟩
  simp only [maxLen] at hcm
  refine TC.seq ?_
  refine TC.region ?_
  refine TL.val rfl rfl rfl (Y.assign rfl rfl) ?_
  refine TL.nil ?_
  refine TQ.next ?_
  refine TC.seq ?_
  refine TC.region ?_
  refine TL.val rfl rfl rfl (Y.assign rfl rfl) ?_
  refine TL.nil ?_
  refine TQ.next ?_
  refine TC.seq ?_
  refine TC.seq ?_
  refine TC.region ?_
  refine TL.val rfl rfl rfl (Y.move rfl rfl) ?_
  refine TL.val rfl rfl rfl (Y.len rfl Try.underlying30 rfl) ?_
  refine TL.val rfl rfl rfl (Y.move rfl rfl) ?_
  refine TL.nil ?_
  refine TQ.next ?_
  refine TC.block ?_
  refine TC.loopF (ι := Nat) [] (fun k => k ≤ bs.length) (fun k => [(9, some (vN k)), (3, some (v32 (crcN bs k)))]) (fun k => []) (fun k => bs.length - k) (0) (by omega) ⟨rfl, rfl, trivial⟩ Pulls.nil ?_
  rintro k hk F' L' rfl hL'
  simp only [List.cons_append, List.nil_append] at hL'
  subst hL'
  refine TC.seq ?_
  refine TC.region ?_
  refine TL.val rfl rfl rfl (Y.bin rfl rfl rfl (br_ltN)) ?_
  refine TL.nil ?_
  refine TQ.next ?_
  refine TC.seq ?_
  refine TC.cond rfl (fun c0 => ?_) (fun c0 => ?_)
  · try simp only [decide_eq_true_eq, decide_eq_false_iff_not, Bool.not_eq_true', Bool.not_eq_false', Bool.and_eq_true, Bool.or_eq_true, Nat.not_lt, Nat.not_le, beq_iff_eq, bne_iff_ne] at c0
    obtain ⟨p, rfl⟩ : ∃ p, a = some p := by cases a with | none => (have := hnone rfl; omega) | some p => exact ⟨p, rfl⟩
    refine TC.skip ?_
    refine TQ.next ?_
    refine TC.seq ?_
    refine TC.block ?_
    refine TC.seq ?_
    refine TC.region ?_
    refine TL.val rfl rfl rfl (by first | exact Y.indexSlB rfl sl30 rfl rfl (by omega) nqq | exact Y.indexSl rfl sl30 rfl rfl (by omega) nqq) ?_
    refine TL.val rfl rfl rfl (Y.load rfl sc5 rfl ceo8) ?_
    refine TL.val rfl rfl rfl (Y.assign rfl rfl) ?_
    refine TL.nil ?_
    refine TQ.next ?_
    refine TC.seq ?_
    refine TC.region ?_
    refine TL.val rfl rfl rfl (Y.move rfl rfl) ?_
    refine TL.val rfl rfl rfl (Y.move rfl rfl) ?_
    refine TL.val rfl rfl rfl (Y.conv rfl Try.underlying5 Try.underlying26 rfl (cv_8_32)) ?_
    refine TL.val rfl rfl rfl (Y.bin rfl rfl rfl (br_xor32)) ?_
    refine TL.val rfl rfl rfl (Y.assign rfl rfl) ?_
    refine TL.nil ?_
    refine TQ.next ?_
    refine TC.seq ?_
    refine TC.region ?_
    refine TL.val rfl rfl rfl (Y.move rfl rfl) ?_
    refine TL.nil ?_
    refine TQ.next ?_
    refine TC.block ?_
    refine TC.loopF (ι := Nat) [] (fun j => j ≤ 8) (fun j => [(17, some (vN j)), (3, some (v32 (iterC (crcN bs k ^^^ (bs.getD k 0).toUInt32) j)))]) (fun j => []) (fun j => 8 - j) (0) (by omega) ⟨rfl, rfl, trivial⟩ Pulls.nil ?_
    rintro j hj F' L' rfl hL'
    simp only [List.cons_append, List.nil_append] at hL'
    subst hL'
    refine TC.seq ?_
    refine TC.region ?_
    refine TL.val rfl rfl rfl (Y.bin rfl rfl rfl (br_ltN (n := 8))) ?_
    refine TL.nil ?_
    refine TQ.next ?_
    refine TC.seq ?_
    refine TC.cond rfl (fun c1 => ?_) (fun c1 => ?_)
    · try simp only [decide_eq_true_eq, decide_eq_false_iff_not, Bool.not_eq_true', Bool.not_eq_false', Bool.and_eq_true, Bool.or_eq_true, Nat.not_lt, Nat.not_le, beq_iff_eq, bne_iff_ne] at c1
      refine TC.skip ?_
      refine TQ.next ?_
      refine TC.seq ?_
      refine TC.block ?_
      refine TC.seq ?_
      refine TC.region ?_
      refine TL.val rfl rfl rfl (Y.move rfl rfl) ?_
      refine TL.val rfl rfl rfl (Y.bin rfl rfl rfl (br_and32 (y := 1))) ?_
      refine TL.val rfl rfl rfl (Y.assign rfl rfl) ?_
      refine TL.nil ?_
      refine TQ.next ?_
      refine TC.region ?_
      refine TL.val rfl rfl rfl (Y.move rfl rfl) ?_
      refine TL.val rfl rfl rfl (Y.bin rfl rfl rfl (br_shr32 (n := 1))) ?_
      refine TL.val rfl rfl rfl (Y.move rfl rfl) ?_
      refine TL.val rfl rfl rfl (Y.neg32 rfl rfl) ?_
      refine TL.val rfl rfl rfl (Y.bin rfl rfl rfl (br_and32 (y := 3988292384))) ?_
      refine TL.val rfl rfl rfl (Y.bin rfl rfl rfl (br_xor32)) ?_
      refine TL.val rfl rfl rfl (Y.assign rfl rfl) ?_
      refine TL.nil ?_
      refine TQ.block_normal ?_
      refine TQ.next ?_
      refine TC.region ?_
      refine TL.val rfl rfl rfl (Y.bin rfl rfl rfl (br_addN (n := 1) (by omega))) ?_
      refine TL.val rfl rfl rfl (Y.move rfl rfl) ?_
      refine TL.nil ?_
      refine TQ.loopF (j + 1) (by omega) (by omega) ⟨rfl, rfl, trivial⟩ (by (repeat first | apply Grow.refl | apply Grow.step | apply Grow.app)) ?_ ?_ ?_
      · kernel_rfl
      · rfl
      · simp only [List.cons_append, List.nil_append]
        exact ett
    · try simp only [decide_eq_true_eq, decide_eq_false_iff_not, Bool.not_eq_true', Bool.not_eq_false', Bool.and_eq_true, Bool.or_eq_true, Nat.not_lt, Nat.not_le, beq_iff_eq, bne_iff_ne] at c1
      refine TC.exit ?_
      refine TQ.then_exit ?_
      refine TQ.then_exit ?_
      refine TQ.block_exit ?_
      refine TQ.block_normal ?_
      refine TQ.next ?_
      refine TC.region ?_
      refine TL.val rfl rfl rfl (Y.bin rfl rfl rfl (br_addN (n := 1) (by omega))) ?_
      refine TL.val rfl rfl rfl (Y.move rfl rfl) ?_
      refine TL.nil ?_
      obtain rfl : j = 8 := by omega
      refine TQ.loopF (k + 1) (by omega) (by omega) ⟨rfl, rfl, trivial⟩ (by (repeat first | apply Grow.refl | apply Grow.step | apply Grow.app)) ?_ ?_ ?_
      · kernel_rfl
      · rfl
      · simp only [List.cons_append, List.nil_append]
        exact ett
  · try simp only [decide_eq_true_eq, decide_eq_false_iff_not, Bool.not_eq_true', Bool.not_eq_false', Bool.and_eq_true, Bool.or_eq_true, Nat.not_lt, Nat.not_le, beq_iff_eq, bne_iff_ne] at c0
    refine TC.exit ?_
    refine TQ.then_exit ?_
    refine TQ.then_exit ?_
    refine TQ.block_exit ?_
    refine TQ.next ?_
    refine TC.seq ?_
    obtain rfl : k = bs.length := by omega
    refine TC.region ?_
    refine TL.val rfl rfl rfl (Y.move rfl rfl) ?_
    refine TL.val rfl rfl rfl (Y.xor32 rfl rfl) ?_
    refine TL.val rfl rfl rfl (Y.assign rfl rfl) ?_
    refine TL.nil ?_
    refine TQ.next ?_
    refine TC.ret ?_
    refine TQ.retE (res1 rfl rfl) (⟨rfl, rfl⟩) ?_
    exact ett
set_option maxHeartbeats 1000000 in
theorem refCrc_fn (A : SA) (a : Option Addr) (n cap : Nat) (bs : List UInt8) (hA : Reads A 1 (.slice a n cap) n (bs.map v8)) (hn : bs.length = n) (L : List SA) :
    Fn Try.prog 53 [.slice a n cap] (A :: L) (fun v L' => v = v32 (crc bs) ∧ L' = A :: L) := by
  subst hn
  refine Fn.of (N := 29) Try.func53 rfl rfl ?_
  intro Xh
  refine TC.know (reads_cap hA inn) ?_
  rintro ⟨hmc, hcm, -, hnone⟩
  simp only [maxLen] at hcm
  refine TC.seq ?_
  refine TC.region ?_
  refine TL.val rfl rfl rfl (Y.assign rfl rfl) ?_
  refine TL.nil ?_
  refine TQ.next ?_
  refine TC.seq ?_
  refine TC.region ?_
  refine TL.val rfl rfl rfl (Y.assign rfl rfl) ?_
  refine TL.nil ?_
  refine TQ.next ?_
  refine TC.seq ?_
  refine TC.seq ?_
  refine TC.region ?_
  refine TL.val rfl rfl rfl (Y.move rfl rfl) ?_
  refine TL.val rfl rfl rfl (Y.len rfl Try.underlying30 rfl) ?_
  refine TL.val rfl rfl rfl (Y.move rfl rfl) ?_
  refine TL.nil ?_
  refine TQ.next ?_
  refine TC.block ?_
  refine TC.loopF (ι := Nat) [] (fun k => k ≤ bs.length) (fun k => [(7, some (vN k)), (3, some (v32 (crcN bs k)))]) (fun k => []) (fun k => bs.length - k) (0) (by omega) ⟨rfl, rfl, trivial⟩ Pulls.nil ?_
  rintro k hk F' L' rfl hL'
  simp only [List.cons_append, List.nil_append] at hL'
  subst hL'
  refine TC.seq ?_
  refine TC.region ?_
  refine TL.val rfl rfl rfl (Y.bin rfl rfl rfl (br_ltN)) ?_
  refine TL.nil ?_
  refine TQ.next ?_
  refine TC.seq ?_
  refine TC.cond rfl (fun c0 => ?_) (fun c0 => ?_)
  · try simp only [decide_eq_true_eq, decide_eq_false_iff_not, Bool.not_eq_true', Bool.not_eq_false', Bool.and_eq_true, Bool.or_eq_true, Nat.not_lt, Nat.not_le, beq_iff_eq, bne_iff_ne] at c0
    obtain ⟨p, rfl⟩ : ∃ p, a = some p := by cases a with | none => (have := hnone rfl; omega) | some p => exact ⟨p, rfl⟩
    refine TC.skip ?_
    refine TQ.next ?_
    refine TC.seq ?_
    refine TC.block ?_
    refine TC.seq ?_
    refine TC.region ?_
    refine TL.val rfl rfl rfl (Y.move rfl rfl) ?_
    refine TL.val rfl rfl rfl (Y.assign rfl rfl) ?_
    refine TL.nil ?_
    refine TQ.next ?_
    refine TC.seq ?_
    refine TC.region ?_
    refine TL.val rfl rfl rfl (Y.move rfl rfl) ?_
    refine TL.val rfl rfl rfl (Y.move rfl rfl) ?_
    refine TL.val rfl rfl rfl (Y.move rfl rfl) ?_
    refine TL.val rfl rfl rfl (by first | exact Y.indexSlB rfl sl30 rfl rfl (by omega) nqq | exact Y.indexSl rfl sl30 rfl rfl (by omega) nqq) ?_
    refine TL.val rfl rfl rfl (Y.load rfl sc5 rfl ceo8) ?_
    refine TL.val rfl rfl rfl (Y.conv rfl Try.underlying5 Try.underlying26 rfl (cv_8_32)) ?_
    refine TL.val rfl rfl rfl (Y.bin rfl rfl rfl (br_xor32)) ?_
    refine TL.val rfl rfl rfl (Y.assign rfl rfl) ?_
    refine TL.nil ?_
    refine TQ.next ?_
    refine TC.seq ?_
    refine TC.region ?_
    refine TL.val rfl rfl rfl (Y.move rfl rfl) ?_
    refine TL.nil ?_
    refine TQ.next ?_
    refine TC.block ?_
    refine TC.loopF (ι := Nat) [] (fun j => j ≤ 8) (fun j => [(17, some (vN j)), (3, some (v32 (iterC (crcN bs k ^^^ (bs.getD k 0).toUInt32) j)))]) (fun j => []) (fun j => 8 - j) (0) (by omega) ⟨rfl, rfl, trivial⟩ Pulls.nil ?_
    rintro j hj F' L' rfl hL'
    simp only [List.cons_append, List.nil_append] at hL'
    subst hL'
    refine TC.seq ?_
    refine TC.region ?_
    refine TL.val rfl rfl rfl (Y.bin rfl rfl rfl (br_ltN (n := 8))) ?_
    refine TL.nil ?_
    refine TQ.next ?_
    refine TC.seq ?_
    refine TC.cond rfl (fun c1 => ?_) (fun c1 => ?_)
    · try simp only [decide_eq_true_eq, decide_eq_false_iff_not, Bool.not_eq_true', Bool.not_eq_false', Bool.and_eq_true, Bool.or_eq_true, Nat.not_lt, Nat.not_le, beq_iff_eq, bne_iff_ne] at c1
      refine TC.skip ?_
      refine TQ.next ?_
      refine TC.seq ?_
      refine TC.block ?_
      refine TC.region ?_
      refine TL.val rfl rfl rfl (Y.move rfl rfl) ?_
      refine TL.val rfl rfl rfl (Y.bin rfl rfl rfl (br_shr32 (n := 1))) ?_
      refine TL.val rfl rfl rfl (Y.move rfl rfl) ?_
      refine TL.val rfl rfl rfl (Y.bin rfl rfl rfl (br_and32 (y := 1))) ?_
      refine TL.val rfl rfl rfl (Y.bin rfl rfl rfl (br_mul32 (x := 3988292384))) ?_
      refine TL.val rfl rfl rfl (Y.bin rfl rfl rfl (br_xor32)) ?_
      refine TL.val rfl rfl rfl (Y.assign rfl rfl) ?_
      refine TL.nil ?_
      refine TQ.block_normal ?_
      refine TQ.next ?_
      refine TC.region ?_
      refine TL.val rfl rfl rfl (Y.bin rfl rfl rfl (br_addN (n := 1) (by omega))) ?_
      refine TL.val rfl rfl rfl (Y.move rfl rfl) ?_
      refine TL.nil ?_
      rw [← cstep_eq]
      refine TQ.loopF (j + 1) (by omega) (by omega) ⟨rfl, rfl, trivial⟩ (by (repeat first | apply Grow.refl | apply Grow.step | apply Grow.app)) ?_ ?_ ?_
      · kernel_rfl
      · rfl
      · simp only [List.cons_append, List.nil_append]
        exact ett
    · try simp only [decide_eq_true_eq, decide_eq_false_iff_not, Bool.not_eq_true', Bool.not_eq_false', Bool.and_eq_true, Bool.or_eq_true, Nat.not_lt, Nat.not_le, beq_iff_eq, bne_iff_ne] at c1
      refine TC.exit ?_
      refine TQ.then_exit ?_
      refine TQ.then_exit ?_
      refine TQ.block_exit ?_
      refine TQ.block_normal ?_
      refine TQ.next ?_
      refine TC.region ?_
      refine TL.val rfl rfl rfl (Y.bin rfl rfl rfl (br_addN (n := 1) (by omega))) ?_
      refine TL.val rfl rfl rfl (Y.move rfl rfl) ?_
      refine TL.nil ?_
      obtain rfl : j = 8 := by omega
      refine TQ.loopF (k + 1) (by omega) (by omega) ⟨rfl, rfl, trivial⟩ (by (repeat first | apply Grow.refl | apply Grow.step | apply Grow.app)) ?_ ?_ ?_
      · kernel_rfl
      · rfl
      · simp only [List.cons_append, List.nil_append]
        exact ett
  · try simp only [decide_eq_true_eq, decide_eq_false_iff_not, Bool.not_eq_true', Bool.not_eq_false', Bool.and_eq_true, Bool.or_eq_true, Nat.not_lt, Nat.not_le, beq_iff_eq, bne_iff_ne] at c0
    refine TC.exit ?_
    refine TQ.then_exit ?_
    refine TQ.then_exit ?_
    refine TQ.block_exit ?_
    refine TQ.next ?_
    refine TC.seq ?_
    obtain rfl : k = bs.length := by omega
    refine TC.region ?_
    refine TL.val rfl rfl rfl (Y.move rfl rfl) ?_
    refine TL.val rfl rfl rfl (Y.xor32 rfl rfl) ?_
    refine TL.val rfl rfl rfl (Y.assign rfl rfl) ?_
    refine TL.nil ?_
    refine TQ.next ?_
    refine TC.ret ?_
    refine TQ.retE (res1 rfl rfl) (⟨rfl, rfl⟩) ?_
    exact ett
end sha
end Go.Proofs.Ytpmplnkempcmjaa

/- Signed messages, as plain data. -/
namespace Go.Proofs.Ytpmplnkempcmjaa
set_option linter.unusedVariables false
set_option linter.unusedSimpArgs false
open Go.RowKit
namespace stun
open r1 (be2 be4 be2_len be4_len)
def hd (m : SMsg) (n : Nat) : List UInt8 := be2 (kindOf m.cls.toNat m.mth.toNat) ++ be2 n ++ magicB ++ m.id
theorem hd_len {m : SMsg} {n : Nat} (h : m.id.length = 12) : (hd m n).length = 20 := by simp [hd, be2, magicB, be4, h]
theorem hd_set {m : SMsg} {n x : Nat} {l : List UInt8} : setLen (hd m n ++ l) x = hd m (x - 20) ++ l := by simp [setLen, hd, be2]
theorem whole_hd (m : SMsg) : m.whole = hd m (enc m.attrs).length ++ enc m.attrs := by rw [SMsg.whole, body_enc0]; rfl
def SMsg.more (m : SMsg) (xs : List PA) : SMsg := ⟨m.cls, m.mth, m.id, m.attrs ++ xs⟩
def tagged (l : List PA) : Bool := l.any fun a => a.1 == 8 || a.1 == 32808
/-- up to the tag, its length counted in -/
def lead (b : List UInt8) : List UInt8 := setLen b (b.length + 24)
def midB (key b : List UInt8) : List UInt8 := setLen (lead b ++ be2 8 ++ be2 20 ++ sha.mac key (lead b)) (b.length + 24 + 8)
def crcX (b : List UInt8) : UInt32 := sha.crc b ^^^ 1398035790
def fin (key b : List UInt8) : List UInt8 := midB key b ++ be2 32808 ++ be2 4 ++ be4 (crcX (midB key b))
/-- what signing comes to -/
def SMsg.sgn (m : SMsg) (key : List UInt8) : Option (List UInt8) := if tagged m.attrs = true ∨ 14 < m.attrs.length then none else match m.build with
  | none => none
  | some b => if 1468 < b.length then none else some (fin key b)
theorem good_iff (m : SMsg) : m.good = true ↔ (∀ a ∈ m.attrs, a.2.length ≤ 512) ∧ 0 ≤ m.cls ∧ m.cls ≤ 3 ∧ 0 ≤ m.mth ∧ m.mth ≤ 4095 ∧ m.attrs.length ≤ 16 := by
  refine ⟨good_parts, fun ⟨h1, h2, h3, h4, h5, h6⟩ => ?_⟩
  simp only [SMsg.good, Bool.and_eq_true, decide_eq_true_eq, List.all_eq_true]
  exact ⟨⟨⟨⟨⟨h1, h2⟩, h3⟩, h4⟩, h5⟩, h6⟩
theorem more_good {m : SMsg} {xs : List PA} (hx : ∀ a ∈ xs, a.2.length ≤ 512) : (m.more xs).good = true ↔ m.good = true ∧ m.attrs.length + xs.length ≤ 16 := by
  rw [good_iff, good_iff]
  constructor
  · rintro ⟨h1, h2, h3, h4, h5, h6⟩
    rw [show (m.more xs).attrs = m.attrs ++ xs from rfl, List.length_append] at h6
    exact ⟨⟨fun a ha => h1 a (List.mem_append_left _ ha), h2, h3, h4, h5, by omega⟩, h6⟩
  · rintro ⟨⟨h1, h2, h3, h4, h5, -⟩, h6⟩
    refine ⟨fun a ha => ?_, h2, h3, h4, h5, by rw [show (m.more xs).attrs = m.attrs ++ xs from rfl, List.length_append]; exact h6⟩
    rcases List.mem_append.1 ha with h | h
    · exact h1 a h
    · exact hx a h
theorem more_whole (m : SMsg) (xs : List PA) : (m.more xs).whole = hd m ((enc m.attrs).length + (enc xs).length) ++ enc m.attrs ++ enc xs := by
  rw [whole_hd, show (m.more xs).attrs = m.attrs ++ xs from rfl, enc_app, List.length_append, ← List.append_assoc]; rfl
theorem more_build {m : SMsg} {xs : List PA} (hx : ∀ a ∈ xs, a.2.length ≤ 512) (hid : m.id.length = 12) : (m.more xs).build = if m.good = true ∧ m.attrs.length + xs.length ≤ 16 ∧ 20 + (enc m.attrs).length + (enc xs).length ≤ 1500 then some (hd m ((enc m.attrs).length + (enc xs).length) ++ enc m.attrs ++ enc xs) else none := by
  have hl : (m.more xs).whole.length = 20 + (enc m.attrs).length + (enc xs).length := by rw [more_whole]; simp [hd_len hid]; omega
  unfold SMsg.build
  simp only [more_good hx, hl, and_assoc]
  rw [more_whole]
theorem encA8 {t : List UInt8} (h : t.length = 20) : encA (8, t) = be2 8 ++ be2 20 ++ t := by
  rw [encA_eq]; simp only [h]; simp [padN]
theorem encA4 {t : List UInt8} (h : t.length = 4) : encA (32808, t) = be2 32808 ++ be2 4 ++ t := by
  rw [encA_eq]; simp only [h]; simp [padN]
theorem encA8_len {t : List UInt8} (h : t.length = 20) : (encA (8, t)).length = 24 := by rw [encA8 h]; simp [h, be2]
theorem encA4_len {t : List UInt8} (h : t.length = 4) : (encA (32808, t)).length = 8 := by rw [encA4 h]; simp [h, be2]
theorem enc1 (x : PA) : enc [x] = encA x := by simp [enc]
theorem enc2 (x y : PA) : enc [x, y] = encA x ++ encA y := by simp [enc]
/-- what the tag is of -/
def preT (m : SMsg) : List UInt8 := hd m ((enc m.attrs).length + 24) ++ enc m.attrs
def tagT (m : SMsg) (key : List UInt8) : List UInt8 := sha.mac key (preT m)
def preC (m : SMsg) (key : List UInt8) : List UInt8 := hd m ((enc m.attrs).length + 32) ++ enc m.attrs ++ encA (8, tagT m key)
def sumC (m : SMsg) (key : List UInt8) : List UInt8 := be4 (crcX (preC m key))
theorem tagT_len (m : SMsg) (key : List UInt8) : (tagT m key).length = 20 := sha.mac_len _ _
theorem two_le {x y : PA} (h1 : x.2.length ≤ 512) (h2 : y.2.length ≤ 512) : ∀ a ∈ [x, y], a.2.length ≤ 512 := by
  intro a ha
  rcases List.mem_cons.1 ha with rfl | ha
  · exact h1
  · rw [List.mem_singleton] at ha; subst ha; exact h2
theorem pair_build (m : SMsg) (t u : List UInt8) (ht : t.length = 20) (hu : u.length = 4) (hid : m.id.length = 12) : (m.more [(8, t), (32808, u)]).build = if m.good = true ∧ m.attrs.length ≤ 14 ∧ (enc m.attrs).length ≤ 1448 then some (hd m ((enc m.attrs).length + 32) ++ enc m.attrs ++ encA (8, t) ++ encA (32808, u)) else none := by
  rw [more_build (two_le (by simp [ht]) (by simp [hu])) hid, enc2, List.length_append, encA8_len ht, encA4_len hu, ← List.append_assoc]
  have e : (m.good = true ∧ m.attrs.length + [((8, t) : PA), (32808, u)].length ≤ 16 ∧ 20 + (enc m.attrs).length + (24 + 8) ≤ 1500) ↔ (m.good = true ∧ m.attrs.length ≤ 14 ∧ (enc m.attrs).length ≤ 1448) := by
    simp only [List.length_cons, List.length_nil]
    constructor
    · rintro ⟨h1, h2, h3⟩; exact ⟨h1, by omega, by omega⟩
    · rintro ⟨h1, h2, h3⟩; exact ⟨h1, by omega, by omega⟩
  simp only [e]
theorem one_build (m : SMsg) (t : List UInt8) (ht : t.length = 20) (hid : m.id.length = 12) : (m.more [(8, t)]).build = if m.good = true ∧ m.attrs.length ≤ 15 ∧ (enc m.attrs).length ≤ 1456 then some (preT m ++ encA (8, t)) else none := by
  rw [more_build (by simp [ht]) hid, enc1, encA8_len ht]
  have e : (m.good = true ∧ m.attrs.length + [((8, t) : PA)].length ≤ 16 ∧ 20 + (enc m.attrs).length + 24 ≤ 1500) ↔ (m.good = true ∧ m.attrs.length ≤ 15 ∧ (enc m.attrs).length ≤ 1456) := by
    simp only [List.length_cons, List.length_nil]
    constructor
    · rintro ⟨h1, h2, h3⟩; exact ⟨h1, by omega, by omega⟩
    · rintro ⟨h1, h2, h3⟩; exact ⟨h1, by omega, by omega⟩
  simp only [e]; rfl
theorem fin_eq (m : SMsg) (key : List UInt8) (hid : m.id.length = 12) : fin key m.whole = hd m ((enc m.attrs).length + 32) ++ enc m.attrs ++ encA (8, tagT m key) ++ encA (32808, sumC m key) := by
  have hl : m.whole.length = 20 + (enc m.attrs).length := by rw [whole_hd]; simp [hd_len hid]
  have h1 : lead m.whole = preT m := by
    rw [lead, hl, whole_hd, hd_set, preT, show 20 + (enc m.attrs).length + 24 - 20 = (enc m.attrs).length + 24 by omega]
  have h2 : midB key m.whole = preC m key := by
    rw [midB, h1, hl, preT]
    rw [show hd m ((enc m.attrs).length + 24) ++ enc m.attrs ++ be2 8 ++ be2 20 ++ sha.mac key (hd m ((enc m.attrs).length + 24) ++ enc m.attrs) = hd m ((enc m.attrs).length + 24) ++ (enc m.attrs ++ (be2 8 ++ be2 20 ++ sha.mac key (hd m ((enc m.attrs).length + 24) ++ enc m.attrs))) by simp only [List.append_assoc]]
    rw [hd_set, show 20 + (enc m.attrs).length + 24 + 8 - 20 = (enc m.attrs).length + 32 by omega, preC, encA8 (tagT_len m key)]
    simp only [List.append_assoc]; rfl
  rw [fin, h2, encA4 (by rw [sumC]; rfl), sumC, preC]
  simp only [List.append_assoc]
theorem sgn_eq (m : SMsg) (key : List UInt8) (hid : m.id.length = 12) (ht : tagged m.attrs = false) : m.sgn key = (m.more [(8, tagT m key), (32808, sumC m key)]).build := by
  rw [pair_build m _ _ (tagT_len m key) (by rw [sumC]; rfl) hid]
  have hl : m.whole.length = 20 + (enc m.attrs).length := by rw [whole_hd]; simp [hd_len hid]
  unfold SMsg.sgn
  rw [ht]
  by_cases h1 : m.good = true ∧ m.attrs.length ≤ 14 ∧ (enc m.attrs).length ≤ 1448
  · rw [if_pos h1, if_neg (by simp; omega), SMsg.build, if_pos ⟨h1.1, by omega⟩]
    simp only []
    rw [if_neg (by omega), fin_eq m key hid]
  · rw [if_neg h1]
    by_cases h2 : 14 < m.attrs.length
    · rw [if_pos (.inr h2)]
    · rw [if_neg (by simp; omega), SMsg.build]
      by_cases h3 : m.good = true ∧ m.whole.length ≤ 1500
      · rw [if_pos h3]
        simp only []
        rw [if_pos]
        have := h3.1
        simp only [not_and] at h1
        have := h1 this (by omega)
        omega
      · rw [if_neg h3]
theorem sgn_tagged {m : SMsg} {key : List UInt8} (ht : tagged m.attrs = true) : m.sgn key = none := by unfold SMsg.sgn; rw [if_pos (.inl ht)]
theorem sgn_sum {m : SMsg} {key s : List UInt8} (hid : m.id.length = 12) (h : m.sgn key = some s) : (m.more [(8, tagT m key), (32808, sumC m key)]).build = some s := by
  cases ht : tagged m.attrs with
  | true => rw [sgn_tagged ht] at h; cases h
  | false => rw [← sgn_eq m key hid ht]; exact h
/-! ### as the document does it -/
theorem ref_no1 {m : SMsg} {key z : List UInt8} (hz : z.length = 20) (hid : m.id.length = 12) (ht : tagged m.attrs = false) (h : (m.more [(8, z)]).build = none) : m.sgn key = none := by
  rw [one_build m z hz hid] at h
  rw [sgn_eq m key hid ht, pair_build m _ _ (tagT_len m key) (by rw [sumC]; rfl) hid]
  split at h
  · cases h
  · rename_i h1
    rw [if_neg (fun h2 => h1 ⟨h2.1, by omega, by omega⟩)]
theorem ref_tag {m : SMsg} {z b : List UInt8} (hz : z.length = 20) (hid : m.id.length = 12) (h : (m.more [(8, z)]).build = some b) : 24 ≤ b.length ∧ b.take (b.length - 24) = preT m := by
  rw [one_build m z hz hid] at h
  split at h
  · cases h
    rw [List.length_append, encA8_len hz, Nat.add_sub_cancel, List.take_left]
    exact ⟨by omega, rfl⟩
  · cases h
theorem ref_no2 {m : SMsg} {key z : List UInt8} (hz : z.length = 4) (hid : m.id.length = 12) (ht : tagged m.attrs = false) (h : (m.more [(8, tagT m key), (32808, z)]).build = none) : m.sgn key = none := by
  rw [pair_build m _ z (tagT_len m key) hz hid] at h
  rw [sgn_eq m key hid ht, pair_build m _ _ (tagT_len m key) (by rw [sumC]; rfl) hid]
  split at h
  · cases h
  · rename_i h1
    rw [if_neg h1]
theorem ref_sum {m : SMsg} {key z b : List UInt8} (hz : z.length = 4) (hid : m.id.length = 12) (ht : tagged m.attrs = false) (h : (m.more [(8, tagT m key), (32808, z)]).build = some b) :
    8 ≤ b.length ∧ b.length ≤ 1500 ∧ m.sgn key = some (b.take (b.length - 4) ++ be4 (crcX (b.take (b.length - 8)))) := by
  have h15 := ((build_iff _ b).1 h).2.1
  rw [pair_build m _ z (tagT_len m key) hz hid] at h
  rw [sgn_eq m key hid ht, pair_build m _ _ (tagT_len m key) (by rw [sumC]; rfl) hid]
  split at h
  · rename_i h1
    rw [if_pos h1]
    have hb := (Option.some.inj h).symm
    rw [show hd m ((enc m.attrs).length + 32) ++ enc m.attrs ++ encA (8, tagT m key) = preC m key from rfl] at hb ⊢
    have hl : b.length = (preC m key).length + 8 := by rw [hb, List.length_append, encA4_len hz]
    have e8 : b.take (b.length - 8) = preC m key := by rw [hl, Nat.add_sub_cancel, hb, List.take_left]
    have e4 : b.take (b.length - 4) = preC m key ++ (be2 32808 ++ be2 4) := by
      rw [hl, hb, encA4 hz, ← List.append_assoc, show (preC m key).length + 8 - 4 = (preC m key ++ (be2 32808 ++ be2 4)).length by simp [be2], List.take_left]
    refine ⟨by omega, h15, ?_⟩
    rw [e8, e4, encA4 (by rw [sumC]; rfl), sumC]
    simp only [List.append_assoc]
  · cases h
/-! ### judging -/
/-- what checking bytes comes to -/
def CR (b key : List UInt8) (c m : Int) (f : Nat → UInt8) (l : List PA) (e : Nat) : Prop := ∃ c0 m0 f0 l0 e0, PR b c0 m0 f0 l0 e0 ∧
  ((e0 = 0 ∧ 2 ≤ l0.length ∧ (⟨c0, m0, idL f0, l0.take (l0.length - 2)⟩ : SMsg).sgn key = some b ∧ c = c0 ∧ m = m0 ∧ idL f = idL f0 ∧ l = l0 ∧ e = 0) ∨
   (¬ (e0 = 0 ∧ 2 ≤ l0.length ∧ (⟨c0, m0, idL f0, l0.take (l0.length - 2)⟩ : SMsg).sgn key = some b) ∧ c = 0 ∧ m = 0 ∧ f = (fun _ => 0) ∧ l = [] ∧ e = if e0 = 0 then 4 else 2))
theorem CR.one {b key : List UInt8} {c m c' m' : Int} {f f' : Nat → UInt8} {l l' : List PA} {e e' : Nat} (h : CR b key c m f l e) (h' : CR b key c' m' f' l' e') : c = c' ∧ m = m' ∧ idL f = idL f' ∧ l = l' ∧ e = e' := by
  obtain ⟨c0, m0, f0, l0, e0, hp, h⟩ := h
  obtain ⟨c1, m1, f1, l1, e1, hp', h'⟩ := h'
  obtain ⟨rfl, rfl, hf, rfl, rfl⟩ := PR.one hp hp'
  rw [← hf] at h'
  rcases h with ⟨g1, g2, g3, g4⟩ | ⟨g, g4⟩ <;> rcases h' with ⟨g1', g2', g3', g4'⟩ | ⟨g', g4'⟩
  · obtain ⟨rfl, rfl, e1, rfl, rfl⟩ := g4
    obtain ⟨rfl, rfl, e2, rfl, rfl⟩ := g4'
    exact ⟨rfl, rfl, e1.trans e2.symm, rfl, rfl⟩
  · exact absurd ⟨g1, g2, g3⟩ g'
  · exact absurd ⟨g1', g2', g3'⟩ g
  · obtain ⟨rfl, rfl, rfl, rfl, rfl⟩ := g4
    obtain ⟨rfl, rfl, rfl, rfl, rfl⟩ := g4'
    exact ⟨rfl, rfl, rfl, rfl, rfl⟩
/-- what is signed is taken -/
theorem CR.signed {m : SMsg} {key s : List UInt8} {c n : Int} {f f0 : Nat → UInt8} {l : List PA} {e : Nat} (hid : m.id = idL f0) (h : m.sgn key = some s) (hc : CR s key c n f l e) : e = 0 ∧ l.length = m.attrs.length + 2 ∧ idL f = idL f0 ∧ n = m.mth ∧ c = m.cls := by
  have hb := sgn_sum (by rw [hid]; rfl) h
  have hp : PR s m.cls m.mth f0 (m.attrs ++ [(8, tagT m key), (32808, sumC m key)]) 0 := .inl ⟨rfl, by rw [← hid]; exact hb⟩
  have hm : (⟨m.cls, m.mth, idL f0, m.attrs⟩ : SMsg) = m := by rw [← hid]
  obtain ⟨rfl, rfl, hf, rfl, rfl⟩ := hc.one ⟨m.cls, m.mth, f0, _, 0, hp, .inl ⟨rfl, by simp, by
    rw [show (m.attrs ++ [((8 : UInt16), tagT m key), (32808, sumC m key)]).length - 2 = m.attrs.length by simp, List.take_left, hm]; exact h, rfl, rfl, rfl, rfl, rfl⟩⟩
  exact ⟨rfl, by simp, hf, rfl, rfl⟩
end stun
end Go.Proofs.Ytpmplnkempcmjaa

/- slices.IndexFunc and ContainsFunc, over rostrum/stun.Attr. -/
namespace Go.Proofs.Ytpmplnkempcmjaa
set_option linter.unusedVariables false
set_option linter.unusedSimpArgs false
open Go.RowKit
namespace ixat
namespace FxIdxFAt
set_option maxRecDepth 100000
theorem sl56 : Program.slI Try.prog 56 = some 2 := by kernel_rfl
end FxIdxFAt
open FxIdxFAt
def idx {α : Type} (p : α → Bool) (l : List α) : Int := match l.findIdx? p with
  | some i => i
  | none => -1
theorem find_take {α : Type} {p : α → Bool} {l : List α} {k : Nat} {x : α} (h : ∀ y ∈ l.take k, p y = false) (hx : l[k]? = some x) (hp : p x = true) : idx p l = k := by
  have e : l.findIdx? p = some k := by
    obtain ⟨hk, hxe⟩ := List.getElem?_eq_some_iff.1 hx
    rw [List.findIdx?_eq_some_iff_getElem]
    refine ⟨hk, by rw [hxe]; exact hp, fun j hj => ?_⟩
    have := h (l[j]) (by rw [List.mem_take_iff_getElem]; exact ⟨j, by omega, rfl⟩)
    simp [this]
  unfold idx; rw [e]
theorem find_none {α : Type} {p : α → Bool} {l : List α} (h : ∀ y ∈ l, p y = false) : idx p l = -1 := by
  have e : l.findIdx? p = none := by rw [List.findIdx?_eq_none_iff]; exact h
  unfold idx; rw [e]
theorem take_all {α : Type} {p : α → Bool} {l : List α} {k : Nat} {x : α} (h : ∀ y ∈ l.take k, p y = false) (hx : l[k]? = some x) (hp : p x = false) : ∀ y ∈ l.take (k + 1), p y = false := by
  intro y hy
  rw [List.take_add_one, hx] at hy
  rcases List.mem_append.1 hy with h1 | h1
  · exact h y h1
  · simp at h1; subst h1; exact hp
set_option maxHeartbeats 1000000 in
theorem IndexFunc_fn {α : Type} [Dat α] (A : SA) (a : Option Addr) (n cap : Nat) (l : List α) (hA : Reads A 2 (.slice a n cap) n (Dat.cs l)) (hn : l.length = n) (hs : Dat.sz α = 2) (pf : FuncId) (pfn : Func) (fs cs : List Value) (p : α → Bool) (L : List SA)
    (hf : Try.prog.funcs[pf]? = some pfn) (hnm : (pfn.name == "runtime.NumGoroutine") = false) (hbd : pfn.body.isNone = false)
    (hp : ∀ x ∈ l, Fn Try.prog pf (fs ++ [.agg (Dat.c x).toArray] ++ cs) (A :: L) (fun v L' => v = .bool (p x) ∧ L' = A :: L)) :
    Fn Try.prog 60 [.slice a n cap, .func (.func pf) fs.toArray cs.toArray] (A :: L) (fun v L' => v = vI (idx p l) ∧ L' = A :: L) := by
  subst hn
  refine Fn.of (N := 19) Try.func60 rfl rfl ?_
  intro Xh
  refine TC.know (reads_cap hA inn) ?_
  rintro ⟨hc1, hc2, -, -⟩
  simp only [maxLen] at hc2
  refine TC.seq ?_
  refine TC.region ?_
  refine TL.val rfl rfl rfl (Y.assign rfl rfl) ?_
  refine TL.nil ?_
  refine TQ.next ?_
  refine TC.seq ?_
  refine TC.seq ?_
  refine TC.region ?_
  refine TL.val rfl rfl rfl (Y.move rfl rfl) ?_
  refine TL.val rfl rfl rfl (Y.len rfl Try.underlying56 rfl) ?_
  refine TL.val rfl rfl rfl (Y.move rfl rfl) ?_
  refine TL.nil ?_
  refine TQ.next ?_
  refine TC.block ?_
  refine TC.loopF (ι := Nat) [4] (fun k => k ≤ l.length ∧ ∀ y ∈ l.take k, p y = false) (fun k => [(8, some (vN k))]) (fun k => []) (fun k => l.length - k) (0) (⟨by omega, by simp⟩) ⟨rfl, trivial⟩ Pulls.nil ?_
  rintro k ⟨hk, hq⟩ F' L' rfl hL'
  simp only [List.cons_append, List.nil_append] at hL'
  subst hL'
  refine TC.seq ?_
  refine TC.region ?_
  refine TL.val rfl rfl rfl (Y.bin rfl rfl rfl (br_ltN)) ?_
  refine TL.nil ?_
  refine TQ.next ?_
  refine TC.seq ?_
  refine TC.cond rfl (fun c0 => ?_) (fun c0 => ?_)
  · try simp only [decide_eq_true_eq, decide_eq_false_iff_not, Bool.not_eq_true', Bool.not_eq_false', Bool.and_eq_true, Bool.or_eq_true, Nat.not_lt, Nat.not_le, beq_iff_eq, bne_iff_ne] at c0
    refine TC.skip ?_
    refine TQ.next ?_
    refine TC.seq ?_
    refine TC.block ?_
    refine TC.seq ?_
    refine TC.region ?_
    refine TL.val rfl rfl rfl (Y.move rfl rfl) ?_
    refine TL.val rfl rfl rfl (Y.assign rfl rfl) ?_
    refine TL.nil ?_
    refine TQ.next ?_
    refine TC.seq ?_
    obtain ⟨x, hx, hxm⟩ := getS (l := l) (i := k) (by omega)
    have hpos : 0 < 2 := by decide
    refine TC.know (reads_some hA inn (by omega) hpos) ?_
    rintro ⟨g, off, rfl⟩
    have hcl : (Dat.c x).length = 2 := by rw [Dat.len]; exact hs
    refine TC.region ?_
    refine TL.val rfl rfl rfl (Y.move rfl rfl) ?_
    refine TL.val rfl rfl rfl (Y.move rfl rfl) ?_
    refine TL.val rfl rfl rfl (Y.move rfl rfl) ?_
    refine TL.val rfl rfl rfl (by first | exact Y.indexSlB rfl sl56 rfl rfl (by omega) nqq | exact Y.indexSl rfl sl56 rfl rfl (by omega) nqq) ?_
    refine TL.val rfl rfl rfl (Y.loadAgg rfl (by kernel_rfl) rfl (Cels.at (g := g) (off := off) hA inn hx hs) hcl) ?_
    refine TL.eff rfl rfl rfl (X.callDyn rfl rfl hf hnm hbd rfl (hp x hxm)) ?_
    rintro _ _ ⟨rfl, rfl⟩
    refine TL.nil ?_
    refine TQ.next ?_
    refine TC.cond rfl (fun c1 => ?_) (fun c1 => ?_)
    · try simp only [decide_eq_true_eq, decide_eq_false_iff_not, Bool.not_eq_true', Bool.not_eq_false', Bool.and_eq_true, Bool.or_eq_true, Nat.not_lt, Nat.not_le, beq_iff_eq, bne_iff_ne] at c1
      have hi := find_take hq hx c1
      refine TC.seq ?_
      refine TC.region ?_
      refine TL.val rfl rfl rfl (Y.move rfl rfl) ?_
      refine TL.val rfl rfl rfl (Y.assign rfl rfl) ?_
      refine TL.nil ?_
      refine TQ.next ?_
      refine TC.ret ?_
      refine TQ.block_ret ?_
      refine TQ.then_ret ?_
      refine TQ.then_ret ?_
      refine TQ.block_ret ?_
      refine TQ.then_ret ?_
      refine TQ.retE (res1 rfl rfl) (⟨by rw [hi], rfl⟩) ?_
      exact ett
    · try simp only [decide_eq_true_eq, decide_eq_false_iff_not, Bool.not_eq_true', Bool.not_eq_false', Bool.and_eq_true, Bool.or_eq_true, Nat.not_lt, Nat.not_le, beq_iff_eq, bne_iff_ne] at c1
      refine TC.skip ?_
      refine TQ.block_normal ?_
      refine TQ.next ?_
      refine TC.region ?_
      refine TL.val rfl rfl rfl (Y.bin rfl rfl rfl (br_addN (n := 1) (by omega))) ?_
      refine TL.val rfl rfl rfl (Y.move rfl rfl) ?_
      refine TL.nil ?_
      refine TQ.loopF (k + 1) (⟨by omega, take_all hq hx c1⟩) (by omega) ⟨rfl, trivial⟩ (by (repeat first | apply Grow.refl | apply Grow.step | apply Grow.app)) ?_ ?_ ?_
      · kernel_rfl
      · rfl
      · simp only [List.cons_append, List.nil_append]
        exact ett
  · try simp only [decide_eq_true_eq, decide_eq_false_iff_not, Bool.not_eq_true', Bool.not_eq_false', Bool.and_eq_true, Bool.or_eq_true, Nat.not_lt, Nat.not_le, beq_iff_eq, bne_iff_ne] at c0
    refine TC.exit ?_
    refine TQ.then_exit ?_
    refine TQ.then_exit ?_
    refine TQ.block_exit ?_
    refine TQ.next ?_
    refine TC.seq ?_
    obtain rfl : k = l.length := by omega
    rw [List.take_length] at hq
    have hi := find_none hq
    refine TC.region ?_
    refine TL.val rfl rfl rfl (Y.assign rfl rfl) ?_
    refine TL.nil ?_
    refine TQ.next ?_
    refine TC.ret ?_
    refine TQ.retE (res1 rfl rfl) (⟨by rw [hi], rfl⟩) ?_
    exact ett
theorem idx_any {α : Type} (p : α → Bool) (l : List α) : decide (0 ≤ idx p l) = l.any p := by
  unfold idx
  cases h : l.findIdx? p with
  | none =>
    have := List.findIdx?_eq_none_iff.1 h
    rw [Bool.eq_iff_iff]
    simp
    exact this
  | some i =>
    obtain ⟨hi, hp, -⟩ := List.findIdx?_eq_some_iff_getElem.1 h
    rw [Bool.eq_iff_iff]
    simp
    exact ⟨l[i], List.getElem_mem hi, hp⟩
theorem ContainsFunc_fn {α : Type} [Dat α] (A : SA) (a : Option Addr) (n cap : Nat) (l : List α) (hA : Reads A 2 (.slice a n cap) n (Dat.cs l)) (hn : l.length = n) (hs : Dat.sz α = 2) (pf : FuncId) (pfn : Func) (fs cs : List Value) (p : α → Bool) (L : List SA)
    (hf : Try.prog.funcs[pf]? = some pfn) (hnm : (pfn.name == "runtime.NumGoroutine") = false) (hbd : pfn.body.isNone = false)
    (hp : ∀ x ∈ l, Fn Try.prog pf (fs ++ [.agg (Dat.c x).toArray] ++ cs) (A :: L) (fun v L' => v = .bool (p x) ∧ L' = A :: L)) :
    Fn Try.prog 40 [.slice a n cap, .func (.func pf) fs.toArray cs.toArray] (A :: L) (fun v L' => v = .bool (l.any p) ∧ L' = A :: L) := by
  refine Fn.of (N := 9) Try.func40 rfl rfl ?_
  intro Xh
  refine TC.seq ?_
  refine TC.region ?_
  refine TL.val rfl rfl rfl (Y.assign rfl rfl) ?_
  refine TL.nil ?_
  refine TQ.next ?_
  refine TC.seq ?_
  refine TC.region ?_
  refine TL.val rfl rfl rfl (Y.move rfl rfl) ?_
  refine TL.val rfl rfl rfl (Y.move rfl rfl) ?_
  refine TL.eff rfl rfl rfl (X.call rfl Try.func60 (by kernel_rfl) rfl rfl (Fn.preE (by repeat first | (with_reducible apply Ent.refl) | (apply Ent.cons; case h => first | (with_reducible (repeat first | apply Pull.here | apply Pull.there); done) | (repeat first | apply Pull.here | apply Pull.there))) (IndexFunc_fn A a n cap l hA hn hs pf pfn fs cs p L hf hnm hbd hp))) ?_
  rintro _ _ ⟨rfl, rfl⟩
  refine TL.val rfl rfl rfl (Y.bin rfl rfl rfl (br_geI (n := 0))) ?_
  refine TL.as (.bool (l.any p)) (by rw [idx_any]) ?_
  refine TL.val rfl rfl rfl (Y.assign rfl rfl) ?_
  refine TL.nil ?_
  refine TQ.next ?_
  refine TC.ret ?_
  refine TQ.retE (res1 rfl rfl) (⟨rfl, rfl⟩) ?_
  exact ett
end ixat
end Go.Proofs.Ytpmplnkempcmjaa

/- stun.Sign, walked. -/
namespace Go.Proofs.Ytpmplnkempcmjaa
set_option linter.unusedVariables false
set_option linter.unusedSimpArgs false
open Go.RowKit
namespace stun
open wr (pad4 be16 be32)
open r1 (be2 be4 be2_len be4_len)
namespace FxStunSg
set_option maxRecDepth 100000
theorem ag58 : Program.aggN Try.prog 58 = some 15 := by kernel_rfl
theorem fo58_3 : Program.fieldOff Try.prog 58 3 = some 14 := by kernel_rfl
theorem fo76_0 : Program.fieldOff Try.prog 76 0 = some 0 := by kernel_rfl
theorem sc22 : Program.isSc Try.prog 22 = true := by kernel_rfl
theorem sc56 : Program.isSc Try.prog 56 = true := by kernel_rfl
theorem sc96 : Program.isSc Try.prog 96 = true := by kernel_rfl
theorem sz5 : (Try.prog.info? 5).map (·.size) = some 1 := by kernel_rfl
theorem sz96 : (Try.prog.info? 96).map (·.size) = some 1 := by kernel_rfl
theorem zc101 : Program.zeroC Try.prog 101 = some ((List.replicate 20 (0 : UInt8)).map v8).toArray := by kernel_rfl
theorem zc96 : Program.zeroC Try.prog 96 = some #[.slice none 0 0] := by kernel_rfl
end FxStunSg
open FxStunSg
theorem readsBlk {b T n : Nat} {l : List UInt8} (hn : l.length = n) (hm : n ≤ maxLen) : Reads (SA.blk b (l.map v8).toArray T) 1 (.slice (some ⟨b, 0, none⟩) n n) n (l.map v8) := fun w O R h => by
  subst hn
  refine ⟨by simp, one8, some ⟨b, 0, none⟩, l.length, rfl, Nat.le_refl _, hm, by simp, ?_⟩
  intro p hp j u hu
  cases hp
  rw [Addr.add_lit, h.2.cell]
  simpa using hu
theorem macO_fn (ka : Option Addr) (kn kc : Nat) (key : List UInt8) (hk : key.length = kn) (a : Option Addr) (n cap : Nat) (b : List UInt8) (hn : b.length = n) (h1 : kn ≤ 140737488351232) (h2 : n ≤ 140737488351232) (L : List SA) :
    Fn Try.prog 49 [.slice ka kn kc, .slice a n cap] (SA.rds 1 (.slice ka kn kc) kn (key.map v8) :: SA.owns 5 1 (.slice a n cap) n (b.map v8) :: L)
      (fun v L' => v = .agg ((sha.mac key b).map v8).toArray ∧ L' = SA.rds 1 (.slice ka kn kc) kn (key.map v8) :: SA.owns 5 1 (.slice a n cap) n (b.map v8) :: L) :=
  Fn.lend0 (Lend.cons Lend1.rds (Lend.cons Lend1.own Lend.nil)) (sha.mac_fn ka kn kc key hk a n cap b hn (by omega) (by omega) []) L
def tgA (e : At) : Bool := e.1 == 8 || e.1 == 32808
theorem tagged_any (l : List At) : tagged (l.map pl) = l.any tgA := by unfold tagged; rw [List.any_map]; rfl
theorem sign1_fn (t : UInt16) (s : Value) (L : List SA) : Fn Try.prog 48 [.agg #[v16 t, s]] L (fun v L' => v = .bool (t == 8 || t == 32808) ∧ L' = L) := by
  refine Fn.of (N := 11) Try.func48 rfl rfl ?_
  intro Xh
  refine TC.seq ?_
  refine TC.region ?_
  refine TL.eff rfl rfl rfl (X.boxA rfl rfl) ?_
  rintro _ _ ⟨b1, rfl, rfl⟩
  refine TL.val rfl rfl rfl (Y.assign rfl rfl) ?_
  refine TL.nil ?_
  refine TQ.next ?_
  refine TC.seq ?_
  refine TC.region ?_
  refine TL.val rfl rfl rfl (by first | exact Y.fieldAddrJ rfl fo76_0 rfl nqq | exact Y.fieldAddr rfl fo76_0 rfl nqq) ?_
  refine TL.val rfl rfl rfl (Y.load rfl sc22 rfl cel16) ?_
  refine TL.val rfl rfl rfl (Y.bin rfl rfl rfl (br_eq16 (y := 8))) ?_
  refine TL.val rfl rfl rfl (Y.move rfl rfl) ?_
  refine TL.case (fun g1_3 => ?_) (fun g1_3 => ?_)
  · try simp only [decide_eq_true_eq, decide_eq_false_iff_not, Bool.not_eq_true', Bool.not_eq_false', Nat.not_lt, Nat.not_le, beq_iff_eq, bne_iff_ne] at g1_3
    refine TL.not rfl rfl rfl ?_
    refine TL.not rfl rfl rfl ?_
    refine TL.not rfl rfl rfl ?_
    refine TL.val rfl rfl rfl (Y.pick_t rfl rfl rfl) ?_
    refine TL.val rfl rfl rfl (Y.assign rfl rfl) ?_
    refine TL.nil ?_
    refine TQ.next ?_
    refine TC.ret ?_
    refine TQ.retE (res1 rfl rfl) (⟨by simp_all, rfl⟩) ?_
    exact ett
  · try simp only [decide_eq_true_eq, decide_eq_false_iff_not, Bool.not_eq_true', Bool.not_eq_false', Nat.not_lt, Nat.not_le, beq_iff_eq, bne_iff_ne] at g1_3
    refine TL.valG rfl rfl rfl (by first | exact Y.fieldAddrJ rfl fo76_0 rfl nqq | exact Y.fieldAddr rfl fo76_0 rfl nqq) ?_
    refine TL.valG rfl rfl rfl (Y.load rfl sc22 rfl cel16) ?_
    refine TL.valG rfl rfl rfl (Y.bin rfl rfl rfl (br_eq16 (y := 32808))) ?_
    refine TL.val rfl rfl rfl (Y.pick_f rfl rfl rfl) ?_
    refine TL.val rfl rfl rfl (Y.assign rfl rfl) ?_
    refine TL.nil ?_
    refine TQ.next ?_
    refine TC.ret ?_
    refine TQ.retE (res1 rfl rfl) (⟨by simp_all, rfl⟩) ?_
    exact ett
theorem sign1_any (x : At) (L : List SA) : Fn Try.prog 48 ([] ++ [.agg (Dat.c x).toArray] ++ []) L (fun v L' => v = .bool (tgA x) ∧ L' = L) := sign1_fn x.1 _ L
def zero0 : Nat := 0
theorem sgn_none {m : SMsg} {key : List UInt8} (h : tagged m.attrs = true ∨ 14 < m.attrs.length) : m.sgn key = none := by unfold SMsg.sgn; rw [if_pos h]
theorem sgn_none2 {m : SMsg} {key : List UInt8} (h : oe m.build ≠ 0 ∨ 1468 < (ob m.build).length) : m.sgn key = none := by
  unfold SMsg.sgn
  split
  · rfl
  · cases hb : m.build with
    | none => rfl
    | some b =>
      rw [hb] at h
      rcases h with h | h
      · exact absurd rfl h
      · exact if_pos h
theorem sgn_some2 {m : SMsg} {key b : List UInt8} (h : ¬ (tagged m.attrs = true ∨ 14 < m.attrs.length)) (hb : m.build = some b) (hl : ¬ 1468 < b.length) : m.sgn key = some (fin key b) := by
  unfold SMsg.sgn; rw [if_neg h, hb]; exact if_neg hl
theorem lead_len (b : List UInt8) : (lead b).length = b.length := setLen_len _ _
set_option maxHeartbeats 1000000 in
--REG rostrum/stun.Sign : _ _ ⟨a{d}, c{d}, rfl, rfl⟩ => (stun.Sign_fn _ _ _ _ _ _ _ _ _ _ (by first | assumption | rfl) (by omega) _)
theorem Sign_fn (c m : Int) (f : Nat → UInt8) (a : Option Addr) (cap : Nat) (l : List At) (ka : Option Addr) (kn kc : Nat) (key : List UInt8) (hk : key.length = kn) (hkl : kn ≤ 140737488351232) (L : List SA) :
    Fn Try.prog 21 [.agg (msgC c m f (.slice a l.length cap)), .slice ka kn kc] (SA.dat (⟨a, cap, l⟩ : Sl At) :: SA.rds 1 (.slice ka kn kc) kn (key.map v8) :: L)
      (fun v L' => ∃ b c', v = .tuple #[.slice b (ob ((SM c m f ⟨a, cap, l⟩).sgn key)).length c', vN (oe ((SM c m f ⟨a, cap, l⟩).sgn key))] ∧
        L' = SA.owns 5 1 (.slice b (ob ((SM c m f ⟨a, cap, l⟩).sgn key)).length c') (ob ((SM c m f ⟨a, cap, l⟩).sgn key)).length ((ob ((SM c m f ⟨a, cap, l⟩).sgn key)).map v8) :: SA.dat (⟨a, cap, l⟩ : Sl At) :: SA.rds 1 (.slice ka kn kc) kn (key.map v8) :: L) := by
  refine Fn.of (N := 58) Try.func21 rfl rfl ?_
  intro Xh
  refine TC.know (dat_cap (a := a) (l := l) inn) ?_
  rintro ⟨hc1, hc2, -⟩
  have hat : (SM c m f ⟨a, cap, l⟩).attrs = l.map pl := rfl
  refine TC.seq ?_
  refine TC.region ?_
  refine TL.eff rfl rfl rfl (X.boxA rfl rfl) ?_
  rintro _ _ ⟨b2, rfl, rfl⟩
  refine TL.val rfl rfl rfl (Y.assign rfl rfl) ?_
  refine TL.val rfl rfl rfl (Y.assign rfl rfl) ?_
  refine TL.nil ?_
  refine TQ.next ?_
  refine TC.seq ?_
  refine TC.seq ?_
  refine TC.region ?_
  refine TL.val rfl rfl rfl (by first | exact Y.fieldAddrJ rfl fo58_3 rfl nqq | exact Y.fieldAddr rfl fo58_3 rfl nqq) ?_
  refine TL.val rfl rfl rfl (Y.load rfl sc56 rfl celD) ?_
  refine TL.eff rfl rfl rfl (X.call rfl Try.func40 (by kernel_rfl) rfl rfl (Fn.preE (by repeat first | (with_reducible apply Ent.refl) | (apply Ent.cons; case h => first | (with_reducible (repeat first | apply Pull.here | apply Pull.there); done) | (repeat first | apply Pull.here | apply Pull.there))) (ixat.ContainsFunc_fn (SA.dat (⟨a, cap, l⟩ : Sl At)) a l.length cap l Reads.datM rfl rfl 48 _ [] [] tgA _ Try.func48 (by kernel_rfl) rfl (fun x _ => sign1_any x _)))) ?_
  rintro _ _ ⟨rfl, rfl⟩
  refine TL.val rfl rfl rfl (Y.move rfl rfl) ?_
  refine TL.case (fun g1_3 => ?_) (fun g1_3 => ?_)
  · try simp only [decide_eq_true_eq, decide_eq_false_iff_not, Bool.not_eq_true', Bool.not_eq_false', Nat.not_lt, Nat.not_le, beq_iff_eq, bne_iff_ne] at g1_3
    refine TL.not rfl rfl rfl ?_
    refine TL.not rfl rfl rfl ?_
    refine TL.not rfl rfl rfl ?_
    refine TL.not rfl rfl rfl ?_
    refine TL.val rfl rfl rfl (Y.pick_t rfl rfl rfl) ?_
    refine TL.nil ?_
    refine TQ.next ?_
    refine TC.cond_t rfl ?_
    refine TC.seq ?_
    have hS : (SM c m f ⟨a, cap, l⟩).sgn key = none := sgn_none (by rw [hat, tagged_any, List.length_map]; first | exact .inl g1_3 | exact .inr c0)
    rw [hS]
    refine TC.to (Ent.nilOwn 5 1) ?_
    refine TC.region ?_
    refine TL.val rfl rfl rfl (Y.assign rfl rfl) ?_
    refine TL.val rfl rfl rfl (Y.assign rfl rfl) ?_
    refine TL.nil ?_
    refine TQ.next ?_
    refine TC.ret ?_
    refine TQ.then_ret ?_
    refine TQ.retE (res2 rfl rfl rfl) (⟨_, _, rfl, rfl⟩) ?_
    exact ett
  · try simp only [decide_eq_true_eq, decide_eq_false_iff_not, Bool.not_eq_true', Bool.not_eq_false', Nat.not_lt, Nat.not_le, beq_iff_eq, bne_iff_ne] at g1_3
    refine TL.valG rfl rfl rfl (by first | exact Y.fieldAddrJ rfl fo58_3 rfl nqq | exact Y.fieldAddr rfl fo58_3 rfl nqq) ?_
    refine TL.valG rfl rfl rfl (Y.load rfl sc56 rfl celD) ?_
    refine TL.valG rfl rfl rfl (Y.len rfl Try.underlying56 rfl) ?_
    refine TL.valG rfl rfl rfl (Y.bin rfl rfl rfl (br_gtN (n := 14))) ?_
    refine TL.val rfl rfl rfl (Y.pick_f rfl rfl rfl) ?_
    refine TL.nil ?_
    refine TQ.next ?_
    refine TC.cond rfl (fun c0 => ?_) (fun c0 => ?_)
    · try simp only [decide_eq_true_eq, decide_eq_false_iff_not, Bool.not_eq_true', Bool.not_eq_false', Bool.and_eq_true, Bool.or_eq_true, Nat.not_lt, Nat.not_le, beq_iff_eq, bne_iff_ne] at c0
      refine TC.seq ?_
      have hS : (SM c m f ⟨a, cap, l⟩).sgn key = none := sgn_none (by rw [hat, tagged_any, List.length_map]; first | exact .inl g1_3 | exact .inr c0)
      rw [hS]
      refine TC.to (Ent.nilOwn 5 1) ?_
      refine TC.region ?_
      refine TL.val rfl rfl rfl (Y.assign rfl rfl) ?_
      refine TL.val rfl rfl rfl (Y.assign rfl rfl) ?_
      refine TL.nil ?_
      refine TQ.next ?_
      refine TC.ret ?_
      refine TQ.then_ret ?_
      refine TQ.retE (res2 rfl rfl rfl) (⟨_, _, rfl, rfl⟩) ?_
      exact ett
    · try simp only [decide_eq_true_eq, decide_eq_false_iff_not, Bool.not_eq_true', Bool.not_eq_false', Bool.and_eq_true, Bool.or_eq_true, Nat.not_lt, Nat.not_le, beq_iff_eq, bne_iff_ne] at c0
      refine TC.skip ?_
      refine TQ.next ?_
      refine TC.seq ?_
      have hS1 : ¬ (tagged (SM c m f ⟨a, cap, l⟩).attrs = true ∨ 14 < (SM c m f ⟨a, cap, l⟩).attrs.length) := by
        rw [hat, tagged_any, List.length_map]
        rintro (h | h)
        · rw [g1_3] at h; cases h
        · omega
      refine TC.region ?_
      refine TL.val rfl rfl rfl (Y.loadAgg rfl ag58 rfl (by first | exact Cels.datAt inn (by assumption) | exact Cels.full inn) (by first | rfl | ((try simp only [List.length_map, List.length_set, List.length_replicate]); omega))) ?_
      refine TL.as (.agg (msgC c m f (.slice a l.length cap))) (by rfl) ?_
      refine TL.eff rfl rfl rfl (X.call rfl Try.func20 (by kernel_rfl) rfl rfl (Fn.preE (by repeat first | (with_reducible apply Ent.refl) | (apply Ent.cons; case h => first | (with_reducible (repeat first | apply Pull.here | apply Pull.there); done) | (repeat first | apply Pull.here | apply Pull.there))) (Build_fn c m f a cap l _))) ?_
      rintro _ _ ⟨a22, c22, rfl, rfl⟩
      refine TL.val rfl rfl rfl (Y.move rfl rfl) ?_
      refine TL.val rfl rfl rfl (Y.extract rfl rfl rfl) ?_
      refine TL.val rfl rfl rfl (Y.extract rfl rfl rfl) ?_
      refine TL.val rfl rfl rfl (Y.assign rfl rfl) ?_
      refine TL.val rfl rfl rfl (Y.assign rfl rfl) ?_
      refine TL.nil ?_
      refine TQ.next ?_
      refine TC.seq ?_
      refine TC.seq ?_
      refine TC.region ?_
      refine TL.val rfl rfl rfl (Y.move rfl rfl) ?_
      refine TL.val rfl rfl rfl (Y.bin rfl rfl rfl (br_neN (n := 0))) ?_
      refine TL.val rfl rfl rfl (Y.move rfl rfl) ?_
      refine TL.case (fun g4_2 => ?_) (fun g4_2 => ?_)
      · try simp only [decide_eq_true_eq, decide_eq_false_iff_not, Bool.not_eq_true', Bool.not_eq_false', Nat.not_lt, Nat.not_le, beq_iff_eq, bne_iff_ne] at g4_2
        refine TL.not rfl rfl rfl ?_
        refine TL.not rfl rfl rfl ?_
        refine TL.not rfl rfl rfl ?_
        refine TL.val rfl rfl rfl (Y.pick_t rfl rfl rfl) ?_
        refine TL.nil ?_
        refine TQ.next ?_
        refine TC.cond_t rfl ?_
        refine TC.seq ?_
        have hS : (SM c m f ⟨a, cap, l⟩).sgn key = none := sgn_none2 (by first | exact .inl g4_2 | exact .inr c1)
        rw [hS]
        refine TC.to (Ent.nilOwn 5 1) ?_
        refine TC.region ?_
        refine TL.val rfl rfl rfl (Y.assign rfl rfl) ?_
        refine TL.val rfl rfl rfl (Y.assign rfl rfl) ?_
        refine TL.nil ?_
        refine TQ.next ?_
        refine TC.ret ?_
        refine TQ.then_ret ?_
        refine TQ.retE (res2 rfl rfl rfl) (⟨_, _, rfl, rfl⟩) ?_
        exact ett
      · try simp only [decide_eq_true_eq, decide_eq_false_iff_not, Bool.not_eq_true', Bool.not_eq_false', Nat.not_lt, Nat.not_le, beq_iff_eq, bne_iff_ne] at g4_2
        refine TL.valG rfl rfl rfl (Y.move rfl rfl) ?_
        refine TL.valG rfl rfl rfl (Y.len rfl Try.underlying30 rfl) ?_
        refine TL.valG rfl rfl rfl (Y.bin rfl rfl rfl (br_gtN (n := 1468))) ?_
        refine TL.val rfl rfl rfl (Y.pick_f rfl rfl rfl) ?_
        refine TL.nil ?_
        refine TQ.next ?_
        refine TC.cond rfl (fun c1 => ?_) (fun c1 => ?_)
        · try simp only [decide_eq_true_eq, decide_eq_false_iff_not, Bool.not_eq_true', Bool.not_eq_false', Bool.and_eq_true, Bool.or_eq_true, Nat.not_lt, Nat.not_le, beq_iff_eq, bne_iff_ne] at c1
          refine TC.seq ?_
          have hS : (SM c m f ⟨a, cap, l⟩).sgn key = none := sgn_none2 (by first | exact .inl g4_2 | exact .inr c1)
          rw [hS]
          refine TC.to (Ent.nilOwn 5 1) ?_
          refine TC.region ?_
          refine TL.val rfl rfl rfl (Y.assign rfl rfl) ?_
          refine TL.val rfl rfl rfl (Y.assign rfl rfl) ?_
          refine TL.nil ?_
          refine TQ.next ?_
          refine TC.ret ?_
          refine TQ.then_ret ?_
          refine TQ.retE (res2 rfl rfl rfl) (⟨_, _, rfl, rfl⟩) ?_
          exact ett
        · try simp only [decide_eq_true_eq, decide_eq_false_iff_not, Bool.not_eq_true', Bool.not_eq_false', Bool.and_eq_true, Bool.or_eq_true, Nat.not_lt, Nat.not_le, beq_iff_eq, bne_iff_ne] at c1
          obtain ⟨b, hb⟩ : ∃ b, (SM c m f ⟨a, cap, l⟩).build = some b := ⟨_, ob_some g4_2⟩
          have hS := sgn_some2 (key := key) hS1 hb (by rw [hb] at c1; exact Nat.not_lt.2 c1)
          rw [hb] at c1
          rw [hS]
          rw [hb]
          rw [show ob (some b) = b from rfl, show ob (some (fin key b)) = fin key b from rfl] at *
          have hbl : 20 ≤ b.length := build_len (x := SM c m f ⟨a, cap, l⟩) rfl hb
          refine TC.know (owns_some (a := a22) inn (by omega)) ?_
          rintro ⟨wg, woff, rfl⟩
          refine TC.skip ?_
          refine TQ.next ?_
          refine TC.seq ?_
          refine TC.region ?_
          refine TL.val rfl rfl rfl (Y.move rfl rfl) ?_
          refine TL.eff rfl rfl rfl (X.alloc rfl zc96) ?_
          rintro _ _ ⟨b8, rfl, rfl⟩
          refine TL.eff0 rfl rfl (by first | exact X.store rfl sz96 rfl rfl rfl pul lnn (by first | exact setM | rfl) | exact X.storeOwn rfl sz96 rfl (Nat.zero_add _).symm rfl rfl pul lnn (by first | exact setML | rfl) | exact X.storeOwn rfl sz96 rfl rfl rfl rfl pul lnn (by first | exact setML | rfl)) ?_
          rintro _ _ rfl
          refine TL.nil ?_
          refine TQ.next ?_
          refine TC.seq ?_
          refine TC.region ?_
          refine TL.val rfl rfl rfl (Y.load rfl sc96 rfl celD) ?_
          refine TL.val rfl rfl rfl (Y.load rfl sc96 rfl celD) ?_
          refine TL.val rfl rfl rfl (Y.len rfl Try.underlying96 rfl) ?_
          refine TL.val rfl rfl rfl (Y.bin rfl rfl rfl (br_addN (n := 24) (by omega))) ?_
          refine TL.eff rfl rfl rfl (X.call rfl Try.func47 (by kernel_rfl) rfl rfl (Fn.preE (by repeat first | (with_reducible apply Ent.refl) | (apply Ent.cons; case h => first | (with_reducible (repeat first | apply Pull.here | apply Pull.there); done) | (repeat first | apply Pull.here | apply Pull.there))) (size_fn _ _ _ _ _ _ rfl (by omega) (by omega) (by omega) _))) ?_
          rintro _ _ ⟨rfl, rfl⟩
          refine TL.nil ?_
          rw [show setLen b (b.length + 24) = lead b from rfl]
          refine TQ.next ?_
          refine TC.seq ?_
          refine TC.region ?_
          refine TL.val rfl rfl rfl (Y.move rfl rfl) ?_
          refine TL.val rfl rfl rfl (Y.load rfl sc96 rfl celD) ?_
          refine TL.eff rfl rfl rfl (X.call rfl Try.func49 (by kernel_rfl) rfl rfl (Fn.preE (by repeat first | (with_reducible apply Ent.refl) | (apply Ent.cons; case h => first | (with_reducible (repeat first | apply Pull.here | apply Pull.there); done) | (repeat first | apply Pull.here | apply Pull.there))) (macO_fn _ _ _ _ hk _ _ _ (lead b) (lead_len b) hkl (by omega) _))) ?_
          rintro _ _ ⟨rfl, rfl⟩
          obtain ⟨t, ht⟩ : ∃ t, t = sha.mac key (lead b) := ⟨_, rfl⟩
          have htl : t.length = 20 := by rw [ht]; exact sha.mac_len _ _
          rw [← ht]
          refine TL.eff rfl rfl rfl (X.alloc rfl zc101) ?_
          rintro _ _ ⟨b9, rfl, rfl⟩
          refine TL.eff0 rfl rfl (X.storeAll rfl (by kernel_rfl) (by simpa using htl) rfl rfl (fun v hv => one8 v (by simpa using hv)) pul (by simp)) ?_
          rintro _ _ rfl
          refine TL.nil ?_
          refine TQ.next ?_
          refine TC.seq ?_
          refine TC.to (wr.put pul (by rfl) pul (l := lead b) (lead_len b) rfl Ent.refl) ?_
          have hll := lead_len b
          refine TC.region ?_
          refine TL.eff rfl rfl rfl (X.call rfl Try.func43 (by kernel_rfl) rfl rfl (Fn.preE (by repeat first | (with_reducible apply Ent.refl) | (apply Ent.cons; case h => first | (with_reducible (repeat first | apply Pull.here | apply Pull.there); done) | (repeat first | apply Pull.here | apply Pull.there))) (wr.U16_fn _ 8 _ (by first | omega | (simp only [List.length_append, List.length_nil, List.length_cons, wr.be16_len, wr.be32_len]; omega) | (simp only [List.length_append, List.length_nil, List.length_cons, wr.be16_len, wr.be32_len, r1.be2_len, r1.be4_len]; omega) | (simp; omega)) _))) ?_
          rintro _ _ ⟨rfl, rfl⟩
          refine TL.nil ?_
          refine TQ.next ?_
          refine TC.seq ?_
          refine TC.region ?_
          refine TL.eff rfl rfl rfl (X.call rfl Try.func43 (by kernel_rfl) rfl rfl (Fn.preE (by repeat first | (with_reducible apply Ent.refl) | (apply Ent.cons; case h => first | (with_reducible (repeat first | apply Pull.here | apply Pull.there); done) | (repeat first | apply Pull.here | apply Pull.there))) (wr.U16_fn _ 20 _ (by first | omega | (simp only [List.length_append, List.length_nil, List.length_cons, wr.be16_len, wr.be32_len]; omega) | (simp only [List.length_append, List.length_nil, List.length_cons, wr.be16_len, wr.be32_len, r1.be2_len, r1.be4_len]; omega) | (simp; omega)) _))) ?_
          rintro _ _ ⟨rfl, rfl⟩
          refine TL.nil ?_
          refine TQ.next ?_
          refine TC.seq ?_
          refine TC.region ?_
          refine TL.val rfl rfl rfl (Y.sliceArr rfl Try.underlying101 sz5 rfl) ?_
          refine TL.eff rfl rfl rfl (X.call rfl Try.func45 (by kernel_rfl) rfl rfl (Fn.preE (by repeat first | (with_reducible apply Ent.refl) | (apply Ent.cons; case h => first | (with_reducible (repeat first | apply Pull.here | apply Pull.there); done) | (repeat first | apply Pull.here | apply Pull.there))) (wr.Bytes_fn (SA.blk b9 (t.map v8).toArray 101) b8 20 (some ⟨b9, 0, none⟩) 20 _ t (readsBlk htl (by decide)) htl (by simp only [List.length_append, wr.be16_len]; omega) _))) ?_
          rintro _ _ ⟨rfl, rfl⟩
          refine TL.nil ?_
          refine TQ.next ?_
          refine TC.seq ?_
          obtain ⟨d, hd⟩ : ∃ d, d = lead b ++ be16 8 ++ be16 20 ++ t := ⟨_, rfl⟩
          have hdl : d.length = b.length + 24 := by rw [hd]; simp only [List.length_append, wr.be16_len, hll, htl]
          have hmid : setLen d (d.length + 8) = midB key b := by rw [midB, hdl, hd, ht]; rfl
          rw [← hd]
          refine TC.open pul ?_
          rintro ⟨wa, wc⟩
          refine TC.split pul ?_
          refine TC.know (owns_some (a := wa) inn (by omega)) ?_
          rintro ⟨wg2, woff2, rfl⟩
          refine TC.region ?_
          refine TL.val rfl rfl rfl (Y.load rfl sc96 rfl celD) ?_
          refine TL.val rfl rfl rfl (Y.load rfl sc96 rfl celD) ?_
          refine TL.val rfl rfl rfl (Y.len rfl Try.underlying96 rfl) ?_
          refine TL.val rfl rfl rfl (Y.bin rfl rfl rfl (br_addN (n := 8) (by omega))) ?_
          refine TL.eff rfl rfl rfl (X.call rfl Try.func47 (by kernel_rfl) rfl rfl (Fn.preE (by repeat first | (with_reducible apply Ent.refl) | (apply Ent.cons; case h => first | (with_reducible (repeat first | apply Pull.here | apply Pull.there); done) | (repeat first | apply Pull.here | apply Pull.there))) (size_fn _ _ _ _ _ _ rfl (by omega) (by omega) (by omega) _))) ?_
          rintro _ _ ⟨rfl, rfl⟩
          refine TL.nil ?_
          rw [hmid]
          refine TQ.next ?_
          refine TC.seq ?_
          have hml : (midB key b).length = d.length := by rw [← hmid]; exact setLen_len _ _
          refine TC.region ?_
          refine TL.val rfl rfl rfl (Y.load rfl sc96 rfl celD) ?_
          refine TL.eff rfl rfl rfl (X.call rfl Try.func50 (by kernel_rfl) rfl rfl (Fn.preE (by repeat first | (with_reducible apply Ent.refl) | (apply Ent.cons; case h => first | (with_reducible (repeat first | apply Pull.here | apply Pull.there); done) | (repeat first | apply Pull.here | apply Pull.there))) (sha.crc_fn (SA.owns 5 1 (.slice (some ⟨wg2, woff2, none⟩) d.length wc) d.length ((midB key b).map v8)) _ _ _ (midB key b) Reads.owns hml _))) ?_
          rintro _ _ ⟨rfl, rfl⟩
          refine TL.val rfl rfl rfl (Y.bin rfl rfl rfl (br_xor32 (y := 1398035790))) ?_
          refine TL.as (v32 (crcX (midB key b))) (by rfl) ?_
          refine TL.val rfl rfl rfl (Y.assign rfl rfl) ?_
          refine TL.nil ?_
          refine TQ.next ?_
          refine TC.seq ?_
          refine TC.to (wr.put pul (by rfl) pul (l := midB key b) hml rfl Ent.refl) ?_
          refine TC.region ?_
          refine TL.eff rfl rfl rfl (X.call rfl Try.func43 (by kernel_rfl) rfl rfl (Fn.preE (by repeat first | (with_reducible apply Ent.refl) | (apply Ent.cons; case h => first | (with_reducible (repeat first | apply Pull.here | apply Pull.there); done) | (repeat first | apply Pull.here | apply Pull.there))) (wr.U16_fn _ 32808 _ (by first | omega | (simp only [List.length_append, List.length_nil, List.length_cons, wr.be16_len, wr.be32_len]; omega) | (simp only [List.length_append, List.length_nil, List.length_cons, wr.be16_len, wr.be32_len, r1.be2_len, r1.be4_len]; omega) | (simp; omega)) _))) ?_
          rintro _ _ ⟨rfl, rfl⟩
          refine TL.nil ?_
          refine TQ.next ?_
          refine TC.seq ?_
          refine TC.region ?_
          refine TL.eff rfl rfl rfl (X.call rfl Try.func43 (by kernel_rfl) rfl rfl (Fn.preE (by repeat first | (with_reducible apply Ent.refl) | (apply Ent.cons; case h => first | (with_reducible (repeat first | apply Pull.here | apply Pull.there); done) | (repeat first | apply Pull.here | apply Pull.there))) (wr.U16_fn _ 4 _ (by first | omega | (simp only [List.length_append, List.length_nil, List.length_cons, wr.be16_len, wr.be32_len]; omega) | (simp only [List.length_append, List.length_nil, List.length_cons, wr.be16_len, wr.be32_len, r1.be2_len, r1.be4_len]; omega) | (simp; omega)) _))) ?_
          rintro _ _ ⟨rfl, rfl⟩
          refine TL.nil ?_
          refine TQ.next ?_
          refine TC.seq ?_
          refine TC.region ?_
          refine TL.val rfl rfl rfl (Y.move rfl rfl) ?_
          refine TL.eff rfl rfl rfl (X.call rfl Try.func44 (by kernel_rfl) rfl rfl (Fn.preE (by repeat first | (with_reducible apply Ent.refl) | (apply Ent.cons; case h => first | (with_reducible (repeat first | apply Pull.here | apply Pull.there); done) | (repeat first | apply Pull.here | apply Pull.there))) (wr.U32_fn _ _ _ (by first | omega | (simp only [List.length_append, List.length_nil, List.length_cons, wr.be16_len, wr.be32_len]; omega) | (simp only [List.length_append, List.length_nil, List.length_cons, wr.be16_len, wr.be32_len, r1.be2_len, r1.be4_len]; omega) | (simp; omega)) _))) ?_
          rintro _ _ ⟨rfl, rfl⟩
          refine TL.nil ?_
          refine TQ.next ?_
          refine TC.seq ?_
          rw [show midB key b ++ be16 32808 ++ be16 4 ++ be32 (crcX (midB key b)) = fin key b from rfl]
          refine TC.open pul ?_
          rintro ⟨wa3, wc3⟩
          refine TC.split pul ?_
          refine TC.region ?_
          refine TL.val rfl rfl rfl (Y.load rfl sc96 rfl celD) ?_
          refine TL.val rfl rfl rfl (Y.assign rfl rfl) ?_
          refine TL.val rfl rfl rfl (Y.assign rfl rfl) ?_
          refine TL.nil ?_
          refine TQ.next ?_
          refine TC.ret ?_
          refine TQ.retE (res2 rfl rfl rfl) (⟨_, _, rfl, rfl⟩) ?_
          exact ett
end stun
end Go.Proofs.Ytpmplnkempcmjaa

/- 'copy' into a slice of one's own; lending what is owned, piece by piece; more on pieces of bytes. No program is named. -/
namespace Go.Proofs.Ytpmplnkempcmjaa
set_option linter.unusedVariables false
set_option linter.unusedSimpArgs false
open Go.RowKit
section
variable {P : Program} {N : Nat} {F : FE} {As L L0 : List SA} {o : Oper} {x y z : Operand} {u v : Value}
theorem X.copyOwn {dT sT e eo dn dc sz m n cap g off q j : Nat} {cs cs' news : List Value} (ho : o.op = .call { callee := .builtin .copy, args := #[x, y], argTypes := #[dT, sT] }) (hu : P.underlying dT = some (.slice e)) (hsz : (P.info? e).map (·.size) = some sz)
    (hx : evO F x = some (.slice (some ⟨g, q, none⟩) dn dc)) (hq : q = off + j) (hy : evO F y = some u) (hs : ∀ w, Holds L w → Src P sz sT u m news w) (hp : Pull (SA.owns eo sz (.slice (some ⟨g, off, none⟩) n cap) n cs) L L0) (hm : m ≤ dn) (hj : j + m * sz ≤ n * sz) (he : wr cs j news = cs') :
    Eff P N o F L (fun v L' => v = vN m ∧ L' = SA.owns eo sz (.slice (some ⟨g, off, none⟩) n cap) n cs' :: L0) := by
  refine ⟨by rw [ho]; simp, fun Y a w ha hw K Q hK => ?_⟩
  unfold Oper.wp execOp; rw [ho]
  subst he; subst hq
  replace hx := ha.eval hx
  replace hy := ha.eval hy
  have hst := (Pull.there (B := Y) hp).st hw
  have hO := hst.isOwn
  have hsrc := hs w hw.tl.holds
  obtain ⟨inf, hinf, rfl⟩ := Option.map_eq_some_iff.1 hsz
  have hc := hsrc.cells
  have hl := hsrc.newsLen
  obtain ⟨arr, hb, hsz⟩ : ∃ arr, Blk w g arr eo ∧ off + n * inf.size ≤ arr.size := by
    rcases hO.val with ⟨hv, _⟩ | ⟨g', off', cap', arr, hv, hb1, h2, _, e3, _⟩
    · cases hv
    · cases hv
      have := Nat.mul_le_mul_right inf.size h2
      exact ⟨arr, hb1, by omega⟩
  have hrun := run_storeCells_cells (P := P) g (off + j) news 0 w (fun i hi => by rw [hb.cell]; simp at hi ⊢; omega) (fun i hi => hb.frozen _) hsrc.one
  have hcp : (Builtin.copy_ #[dT, sT] o.type #[.slice (some ⟨g, off + j, none⟩) dn dc, u]).run P w = .ok (vN m) (w.setCells g (off + j) news) := by
    unfold Builtin.copy_
    have hmin : Nat.min m dn = m := Nat.min_eq_left hm
    simp only [Nat.add_zero] at hrun
    simp [run_underlying hu, hsrc.len, hmin, sizeOf, typeInfo, hinf, hc, hrun, goInt]
  have hfin := hO.within news hsrc.one j (by omega)
  generalize a.eval = ρ at hx hy ⊢
  simp [resolve, invoke, builtin, hx, hy, hcp, Result.andThen, Oper.upon]
  exact hK _ _ _ ⟨rfl, rfl⟩ (St.up1 (hst.frS (S := [g]) (Fr.setCells _ _ _ (Fr.refl _ _) (by simp)) fun O R hA => ⟨fun k hk => hA.1 k (by simpa [own] using hk), O, R, ⟨fun k hk => hA.1 k (by simpa [own] using hk), hfin⟩, fun k hk => .inl hk, fun k hk => .inr (.inl hk)⟩))
end
theorem cutV_some {g off cap k n sz : Nat} (h : k < cap) : cutV (some ⟨g, off, none⟩) cap k n sz = .slice (some ⟨g, off + k * sz, none⟩) (n - k) (cap - k) := by
  unfold cutV; rw [if_neg (by omega)]; simp [Addr.add_lit]
theorem wr_tail (a b c : List Value) (h : b.length = c.length) : wr (a ++ b) a.length c = a ++ c := by
  unfold wr; rw [List.take_left, ← h, ← List.length_append, List.drop_length, List.append_nil]
theorem Reads.head {A : SA} {sz n cap k : Nat} {a : Option Addr} {cs : List Value} (h : Reads A sz (.slice a n cap) n cs) (hk : k ≤ n) : Reads A sz (.slice a k cap) k (cs.take (k * sz)) := fun w O R hp => (h w O R hp).take hk
theorem Reads.head8 {A : SA} {n cap k : Nat} {a : Option Addr} {l : List UInt8} (h : Reads A 1 (.slice a n cap) n (l.map v8)) (hk : k ≤ n) : Reads A 1 (.slice a k cap) k ((l.take k).map v8) := by
  have := h.head hk
  rwa [Nat.mul_one, ← List.map_take] at this
section
variable {L L1 : List SA}
/-- the beginning of bytes of one's own, from now on read -/
theorem Ent.headOwn {e n cap k : Nat} {a : Option Addr} {l : List UInt8} (h : Pull (SA.owns e 1 (.slice a n cap) n (l.map v8)) L L1) (hk : k ≤ n) : Ent L (SA.rds 1 (.slice a k cap) k ((l.take k).map v8) :: L1) := by
  have := Ent.takeRds (L := L1) (sz := 1) (a := a) (cap := cap) (cs := l.map v8) hk
  rw [Nat.mul_one, ← List.map_take] at this
  exact h.ent.trans (Ent.freeze.trans this)
/-- the elements apart from the slice -/
theorem Ent.unSl {α : Type} [Dat α] {a : Option Addr} {cap : Nat} {l : List α} {L : List SA} : Ent (SA.dat (⟨a, cap, l⟩ : Sl α) :: L) (SA.rds (Dat.sz α) (.slice a l.length cap) l.length (Dat.cs l) :: SA.rdss (l.flatMap Dat.g) :: L) :=
  (Ent.rdsOf (s := (⟨a, cap, l⟩ : Sl α))).trans (Ent.under _ ((Ent.rdss_sub fun q hq => List.mem_cons_of_mem _ hq).trans (Ent.under _ Ent.drop)))
/-- the beginning of a slice, beside the whole -/
theorem Ent.headSl {α : Type} [Dat α] {a : Option Addr} {cap k : Nat} {l : List α} (h : Pull (SA.dat (⟨a, cap, l⟩ : Sl α)) L L1) (hk : k ≤ l.length) : Ent L (SA.dat (⟨a, cap, l.take k⟩ : Sl α) :: SA.dat (⟨a, cap, l⟩ : Sl α) :: L1) := by
  refine h.ent.trans ((Ent.dup Dup.dat).trans (Ent.unSl.trans ?_))
  refine (Ent.takeRds hk).trans ?_
  have hl : (l.take k).length = k := by rw [List.length_take]; omega
  have hc : (Dat.cs l).take (k * Dat.sz α) = Dat.cs (l.take k) := by
    have e : Dat.cs l = Dat.cs (l.take k) ++ Dat.cs (l.drop k) := by rw [← Dat.cs_app, List.take_append_drop]
    rw [e, show k * Dat.sz α = (Dat.cs (l.take k)).length by rw [Dat.cs_len, hl], List.take_left]
  rw [hc]
  refine (Ent.under _ ((Ent.rdss_sub (hs := (l.take k).flatMap Dat.g) fun q hq => ?_).trans (Ent.under _ Ent.drop))).trans (Ent.mkSl hl rfl rfl)
  obtain ⟨x, hx, hq⟩ := List.mem_flatMap.1 hq
  exact List.mem_flatMap.2 ⟨x, List.mem_of_mem_take hx, hq⟩
end
section
variable {P : Program} {L : List SA} {f : FuncId} {args : List Value}
/-- a function that reads a slice of structs is handed one of one's own -/
theorem Fn.lendSl {α : Type} [Dat α] {e sz cap : Nat} {a : Option Addr} {l : List α} {R : Value → List SA → Prop} (hs : Dat.sz α = sz) (h : ∀ L, Fn P f args (SA.dat (⟨a, cap, l⟩ : Sl α) :: L) (fun v L' => ∃ Ln, R v Ln ∧ (∀ A, In A Ln → OO A) ∧ L' = Ln ++ SA.dat (⟨a, cap, l⟩ : Sl α) :: L)) (L : List SA) :
    Fn P f args (SA.owns e sz (.slice a l.length cap) l.length (Dat.cs l) :: SA.rdss (l.flatMap Dat.g) :: L) (fun v L' => ∃ Ln, R v Ln ∧ L' = Ln ++ SA.owns e sz (.slice a l.length cap) l.length (Dat.cs l) :: SA.rdss (l.flatMap Dat.g) :: L) := by
  subst hs
  refine (Fn.lend (R := R) (Lend.cons Lend1.own (Lend.cons (Lend1.same Dup.rdss) Lend.nil)) ?_ L)
  refine Fn.preE (Ent.mkSl rfl rfl rfl) ((h []).mono ?_)
  rintro v L' ⟨Ln, h1, h2, rfl⟩
  refine ⟨Ln ++ [SA.rds (Dat.sz α) (.slice a l.length cap) l.length (Dat.cs l), SA.rdss (l.flatMap Dat.g)], ?_, Ln, h1, h2, rfl⟩
  have e0 : ∀ M : List SA, Ent (M ++ [SA.dat (⟨a, cap, l⟩ : Sl α)]) (M ++ [SA.rds (Dat.sz α) (.slice a l.length cap) l.length (Dat.cs l), SA.rdss (l.flatMap Dat.g)]) := fun M => by
    induction M with
    | nil => exact Ent.unSl
    | cons B M ih => exact ih.under B
  exact e0 Ln
end
end Go.Proofs.Ytpmplnkempcmjaa

/- The document's Sign, walked. -/
namespace Go.Proofs.Ytpmplnkempcmjaa
set_option linter.unusedVariables false
set_option linter.unusedSimpArgs false
open Go.RowKit
namespace stun
open wr (pad4 be16 be32)
open r1 (be2 be4 be2_len be4_len)
namespace FxStunRS
set_option maxRecDepth 100000
theorem ag43 : Program.aggN Try.prog 43 = some 15 := by kernel_rfl
theorem el30 : Elt Try.prog 30 5 1 1 (.int .u8 0) := ⟨Try.underlying30, by kernel_rfl, rfl, by decide, by simp [Value.cells, Value.oneCell']⟩
theorem el41 : Elt Try.prog 41 77 2 32 (.agg #[.int .u16 0, .slice none 0 0]) := ⟨Try.underlying41, by kernel_rfl, rfl, by decide, by simp [Value.cells, Value.oneCell']⟩
theorem fo43_3 : Program.fieldOff Try.prog 43 3 = some 14 := by kernel_rfl
theorem fo77_0 : Program.fieldOff Try.prog 77 0 = some 0 := by kernel_rfl
theorem fo77_1 : Program.fieldOff Try.prog 77 1 = some 1 := by kernel_rfl
theorem pl77 : Program.places Try.prog 77 = some [(0, 1), (1, 1)] := by kernel_rfl
theorem sc22 : Program.isSc Try.prog 22 = true := by kernel_rfl
theorem sc41 : Program.isSc Try.prog 41 = true := by kernel_rfl
theorem sl41 : Program.slI Try.prog 41 = some 2 := by kernel_rfl
theorem sz5 : (Try.prog.info? 5).map (·.size) = some 1 := by kernel_rfl
theorem zc101 : Program.zeroC Try.prog 101 = some ((List.replicate 20 (0 : UInt8)).map v8).toArray := by kernel_rfl
theorem zc43 : Program.zeroC Try.prog 43 = some #[.int .i64 0, .int .i64 0, .int .u8 0, .int .u8 0, .int .u8 0, .int .u8 0, .int .u8 0, .int .u8 0, .int .u8 0, .int .u8 0, .int .u8 0, .int .u8 0, .int .u8 0, .int .u8 0, .slice none 0 0] := by kernel_rfl
theorem zc77 : Program.zeroC Try.prog 77 = some #[.int .u16 0, .slice none 0 0] := by kernel_rfl
theorem zs77 : ((Try.prog.info? 77).bind fun i => i.zero.map fun z => (i.size, z.cells.size)) = some (2, 2) := by kernel_rfl
end FxStunRS
open FxStunRS
theorem refBuildO_fn (c m : Int) (f : Nat → UInt8) (a : Option Addr) (cap : Nat) (l : List At) (L : List SA) :
    Fn Try.prog 27 [.agg (msgC c m f (.slice a l.length cap))] (SA.owns 77 2 (.slice a l.length cap) l.length (Dat.cs l) :: SA.rdss (l.flatMap Dat.g) :: L)
      (fun v L' => ∃ Ln, (∃ b c', v = .tuple #[.slice b (ob (SM c m f ⟨a, cap, l⟩).build).length c', vN (oe (SM c m f ⟨a, cap, l⟩).build)] ∧
        Ln = [SA.owns 5 1 (.slice b (ob (SM c m f ⟨a, cap, l⟩).build).length c') (ob (SM c m f ⟨a, cap, l⟩).build).length ((ob (SM c m f ⟨a, cap, l⟩).build).map v8)]) ∧ L' = Ln ++ SA.owns 77 2 (.slice a l.length cap) l.length (Dat.cs l) :: SA.rdss (l.flatMap Dat.g) :: L) :=
  Fn.lendSl rfl (fun L => (refBuild_fn c m f a cap l L).mono fun v L' ⟨b, c', h1, h2⟩ => ⟨L', Ent.refl, _, ⟨b, c', h1, rfl⟩, fun A hA => by rw [hA.one]; exact OO.owns, h2⟩) L
theorem any_take_no {α : Type} {p : α → Bool} {l : List α} {k : Nat} {x : α} (h : (l.take k).any p = false) (hx : l[k]? = some x) (hp : p x = false) : (l.take (k + 1)).any p = false := by
  rw [List.take_add_one, hx, List.any_append, h]; simp [hp]
theorem any_at {α : Type} {p : α → Bool} {l : List α} {k : Nat} {x : α} (hx : l[k]? = some x) (hp : p x = true) : l.any p = true := List.any_eq_true.2 ⟨x, List.mem_of_getElem? hx, hp⟩
theorem oe_none {o : Option (List UInt8)} (h : ¬ oe o = 0) : o = none := by
  cases o with
  | none => rfl
  | some w => exact absurd rfl h
def z20 : List UInt8 := List.replicate 20 0
theorem made20 : (madeCells (Value.int IntKind.u8 0).cells (20 * 1)).toList = z20.map v8 := by
  show (madeCells #[Value.int IntKind.u8 0] 20).toList = _
  rw [madeCells_rep]; rfl
def z4 : List UInt8 := List.replicate 4 0
theorem made4 : (madeCells (Value.int IntKind.u8 0).cells (4 * 1)).toList = z4.map v8 := by
  show (madeCells #[Value.int IntKind.u8 0] 4).toList = _
  rw [madeCells_rep]; rfl
theorem cs_val (l : List At) (t : UInt16) (s : Bs) (v : Value) (s' : Bs) (hv : Sl.v s' = v) : (Dat.cs (l ++ [((t, s) : At)])).set (l.length * 2 + 1) v = Dat.cs (l ++ [((t, s') : At)]) := by
  subst hv
  have hl : (Dat.cs l).length = l.length * 2 := Dat.cs_len l
  rw [Dat.cs_app, Dat.cs_app, Dat.cs_one, Dat.cs_one, List.set_append_right _ _ (by omega), show l.length * 2 + 1 - (Dat.cs l).length = 1 by omega]
  rfl
/-- the bytes of a variable that is an array, as an attribute's value -/
theorem Ent.mkAtB {t : UInt16} {b T n : Nat} {bs : List UInt8} {L L1 : List SA} (h1 : Pull (SA.blk b (bs.map v8).toArray T) L L1) (hn : bs.length = n) (hm : n ≤ maxLen) : Ent L (SA.dat ((t, ⟨some ⟨b, 0, none⟩, n, bs⟩) : At) :: L1) :=
  (Ent.rdOfBlk h1 (readsBlk hn hm) rfl).trans (Ent.mkBytes hn)
theorem copy_tail (b u : List UInt8) (h4 : u.length = 4) (hb : 4 ≤ b.length) : wr (b.map v8) (b.length - 4) (u.map v8) = (b.take (b.length - 4) ++ u).map v8 := by
  have e : b.map v8 = (b.take (b.length - 4)).map v8 ++ (b.drop (b.length - 4)).map v8 := by rw [← List.map_append, List.take_append_drop]
  have hl : ((b.take (b.length - 4)).map v8).length = b.length - 4 := by rw [List.length_map, List.length_take]; omega
  have := wr_tail ((b.take (b.length - 4)).map v8) ((b.drop (b.length - 4)).map v8) (u.map v8) (by rw [List.length_map, List.length_map, List.length_drop]; omega)
  rw [hl, ← e] at this
  rw [this, List.map_append]
abbrev one2 (t : UInt16) (a : Option Addr) (n : Nat) (v : List UInt8) : At := (t, ⟨a, n, v⟩)
theorem SM_more (c m : Int) (f : Nat → UInt8) (a a' : Option Addr) (cap cap' : Nat) (l xs : List At) : SM c m f ⟨a', cap', l ++ xs⟩ = (SM c m f ⟨a, cap, l⟩).more (xs.map pl) := by simp [SM, SMsg.more]
set_option maxHeartbeats 2000000 in
--REG rostrum/rostrumref04.Sign : _ _ ⟨a{d}, c{d}, rfl, rfl⟩ => (stun.refSign_fn _ _ _ _ _ _ _ _ _ _ (by first | assumption | rfl) (by omega) (by first | assumption | omega) _)
theorem refSign_fn (c m : Int) (f : Nat → UInt8) (a : Option Addr) (cap : Nat) (l : List At) (ka : Option Addr) (kn kc : Nat) (key : List UInt8) (hk : key.length = kn) (hkl : kn ≤ 140737488351232) (hl : l.length * 32 ≤ 140737488351232) (L : List SA) :
    Fn Try.prog 26 [.agg (msgC c m f (.slice a l.length cap)), .slice ka kn kc] (SA.dat (⟨a, cap, l⟩ : Sl At) :: SA.rds 1 (.slice ka kn kc) kn (key.map v8) :: L)
      (fun v L' => ∃ b c', v = .tuple #[.slice b (ob ((SM c m f ⟨a, cap, l⟩).sgn key)).length c', vN (oe ((SM c m f ⟨a, cap, l⟩).sgn key))] ∧
        L' = SA.owns 5 1 (.slice b (ob ((SM c m f ⟨a, cap, l⟩).sgn key)).length c') (ob ((SM c m f ⟨a, cap, l⟩).sgn key)).length ((ob ((SM c m f ⟨a, cap, l⟩).sgn key)).map v8) :: SA.dat (⟨a, cap, l⟩ : Sl At) :: SA.rds 1 (.slice ka kn kc) kn (key.map v8) :: L) := by
  refine Fn.of (N := 97) Try.func26 rfl rfl ?_
  intro Xh
  refine TC.know (dat_cap (a := a) (l := l) inn) ?_
  rintro ⟨hc1, hc2, -⟩
  have hat : (SM c m f ⟨a, cap, l⟩).attrs = l.map pl := rfl
  refine TC.seq ?_
  refine TC.region ?_
  refine TL.eff rfl rfl rfl (X.boxA rfl rfl) ?_
  rintro _ _ ⟨b2, rfl, rfl⟩
  refine TL.val rfl rfl rfl (Y.assign rfl rfl) ?_
  refine TL.val rfl rfl rfl (Y.assign rfl rfl) ?_
  refine TL.nil ?_
  refine TQ.next ?_
  refine TC.seq ?_
  refine TC.seq ?_
  refine TC.region ?_
  refine TL.val rfl rfl rfl (by first | exact Y.fieldAddrJ rfl fo43_3 rfl nqq | exact Y.fieldAddr rfl fo43_3 rfl nqq) ?_
  refine TL.val rfl rfl rfl (Y.load rfl sc41 rfl celD) ?_
  refine TL.as (.slice a l.length cap) (by rfl) ?_
  refine TL.val rfl rfl rfl (Y.len rfl Try.underlying41 rfl) ?_
  refine TL.val rfl rfl rfl (Y.move rfl rfl) ?_
  refine TL.nil ?_
  refine TQ.next ?_
  refine TC.block ?_
  refine TC.loopF (ι := Nat) [4, 5] (fun k => k ≤ l.length ∧ (l.take k).any tgA = false) (fun k => [(15, some (vN k))]) (fun k => []) (fun k => l.length - k) (0) (⟨by omega, by simp⟩) ⟨rfl, trivial⟩ Pulls.nil ?_
  rintro k ⟨hk2, hno⟩ F' L' rfl hL'
  simp only [List.cons_append, List.nil_append] at hL'
  subst hL'
  refine TC.seq ?_
  refine TC.region ?_
  refine TL.val rfl rfl rfl (Y.bin rfl rfl rfl (br_ltN)) ?_
  refine TL.nil ?_
  refine TQ.next ?_
  refine TC.seq ?_
  refine TC.cond rfl (fun c0 => ?_) (fun c0 => ?_)
  · try simp only [decide_eq_true_eq, decide_eq_false_iff_not, Bool.not_eq_true', Bool.not_eq_false', Bool.and_eq_true, Bool.or_eq_true, Nat.not_lt, Nat.not_le, beq_iff_eq, bne_iff_ne] at c0
    refine TC.skip ?_
    refine TQ.next ?_
    refine TC.seq ?_
    refine TC.block ?_
    refine TC.seq ?_
    refine TC.region ?_
    refine TL.val rfl rfl rfl (Y.move rfl rfl) ?_
    refine TL.val rfl rfl rfl (Y.assign rfl rfl) ?_
    refine TL.nil ?_
    refine TQ.next ?_
    refine TC.seq ?_
    obtain ⟨⟨t, a1, ac, bs⟩, hx, hxm⟩ := getS (l := l) (i := k) (by omega)
    refine TC.know (dat_some (a := a) (l := l) inn (by omega)) ?_
    rintro ⟨g, off, rfl⟩
    refine TC.region ?_
    refine TL.val rfl rfl rfl (by first | exact Y.fieldAddrJ rfl fo43_3 rfl nqq | exact Y.fieldAddr rfl fo43_3 rfl nqq) ?_
    refine TL.val rfl rfl rfl (Y.load rfl sc41 rfl celD) ?_
    refine TL.val rfl rfl rfl (Y.move rfl rfl) ?_
    refine TL.val rfl rfl rfl (by first | exact Y.indexSlB rfl sl41 rfl rfl (by omega) nqq | exact Y.indexSl rfl sl41 rfl rfl (by omega) nqq) ?_
    refine TL.val rfl rfl rfl (by first | exact Y.fieldAddrJ rfl fo77_0 rfl nqq | exact Y.fieldAddr rfl fo77_0 rfl nqq) ?_
    refine TL.val rfl rfl rfl (Y.load rfl sc22 rfl cel16) ?_
    refine TL.as (v16 t) (by rfl) ?_
    refine TL.val rfl rfl rfl (Y.bin rfl rfl rfl (br_eq16 (y := 8))) ?_
    refine TL.val rfl rfl rfl (Y.move rfl rfl) ?_
    refine TL.case (fun g4_7 => ?_) (fun g4_7 => ?_)
    · try simp only [decide_eq_true_eq, decide_eq_false_iff_not, Bool.not_eq_true', Bool.not_eq_false', Nat.not_lt, Nat.not_le, beq_iff_eq, bne_iff_ne] at g4_7
      refine TL.not rfl rfl rfl ?_
      refine TL.not rfl rfl rfl ?_
      refine TL.not rfl rfl rfl ?_
      refine TL.not rfl rfl rfl ?_
      refine TL.not rfl rfl rfl ?_
      refine TL.not rfl rfl rfl ?_
      refine TL.not rfl rfl rfl ?_
      refine TL.val rfl rfl rfl (Y.pick_t rfl rfl rfl) ?_
      refine TL.nil ?_
      refine TQ.next ?_
      refine TC.cond_t rfl ?_
      refine TC.seq ?_
      have hS : (SM c m f ⟨some ⟨g, off, none⟩, cap, l⟩).sgn key = none := sgn_tagged (by rw [hat, tagged_any]; exact any_at hx (by simp [tgA]; first | exact .inl g4_7 | exact .inr c1))
      rw [hS]
      refine TC.to (Ent.nilOwn 5 1) ?_
      refine TC.region ?_
      refine TL.val rfl rfl rfl (Y.assign rfl rfl) ?_
      refine TL.val rfl rfl rfl (Y.assign rfl rfl) ?_
      refine TL.nil ?_
      refine TQ.next ?_
      refine TC.ret ?_
      refine TQ.block_ret ?_
      refine TQ.then_ret ?_
      refine TQ.then_ret ?_
      refine TQ.block_ret ?_
      refine TQ.then_ret ?_
      refine TQ.retE (res2 rfl rfl rfl) (⟨_, _, rfl, rfl⟩) ?_
      exact ett
    · try simp only [decide_eq_true_eq, decide_eq_false_iff_not, Bool.not_eq_true', Bool.not_eq_false', Nat.not_lt, Nat.not_le, beq_iff_eq, bne_iff_ne] at g4_7
      refine TL.valG rfl rfl rfl (by first | exact Y.fieldAddrJ rfl fo43_3 rfl nqq | exact Y.fieldAddr rfl fo43_3 rfl nqq) ?_
      refine TL.valG rfl rfl rfl (Y.load rfl sc41 rfl celD) ?_
      refine TL.valG rfl rfl rfl (Y.move rfl rfl) ?_
      refine TL.valG rfl rfl rfl (by first | exact Y.indexSlB rfl sl41 rfl rfl (by omega) nqq | exact Y.indexSl rfl sl41 rfl rfl (by omega) nqq) ?_
      refine TL.valG rfl rfl rfl (by first | exact Y.fieldAddrJ rfl fo77_0 rfl nqq | exact Y.fieldAddr rfl fo77_0 rfl nqq) ?_
      refine TL.valG rfl rfl rfl (Y.load rfl sc22 rfl cel16) ?_
      refine TL.as (v16 t) (by rfl) ?_
      refine TL.valG rfl rfl rfl (Y.bin rfl rfl rfl (br_eq16 (y := 32808))) ?_
      refine TL.val rfl rfl rfl (Y.pick_f rfl rfl rfl) ?_
      refine TL.nil ?_
      refine TQ.next ?_
      refine TC.cond rfl (fun c1 => ?_) (fun c1 => ?_)
      · try simp only [decide_eq_true_eq, decide_eq_false_iff_not, Bool.not_eq_true', Bool.not_eq_false', Bool.and_eq_true, Bool.or_eq_true, Nat.not_lt, Nat.not_le, beq_iff_eq, bne_iff_ne] at c1
        refine TC.seq ?_
        have hS : (SM c m f ⟨some ⟨g, off, none⟩, cap, l⟩).sgn key = none := sgn_tagged (by rw [hat, tagged_any]; exact any_at hx (by simp [tgA]; first | exact .inl g4_7 | exact .inr c1))
        rw [hS]
        refine TC.to (Ent.nilOwn 5 1) ?_
        refine TC.region ?_
        refine TL.val rfl rfl rfl (Y.assign rfl rfl) ?_
        refine TL.val rfl rfl rfl (Y.assign rfl rfl) ?_
        refine TL.nil ?_
        refine TQ.next ?_
        refine TC.ret ?_
        refine TQ.block_ret ?_
        refine TQ.then_ret ?_
        refine TQ.then_ret ?_
        refine TQ.block_ret ?_
        refine TQ.then_ret ?_
        refine TQ.retE (res2 rfl rfl rfl) (⟨_, _, rfl, rfl⟩) ?_
        exact ett
      · try simp only [decide_eq_true_eq, decide_eq_false_iff_not, Bool.not_eq_true', Bool.not_eq_false', Bool.and_eq_true, Bool.or_eq_true, Nat.not_lt, Nat.not_le, beq_iff_eq, bne_iff_ne] at c1
        refine TC.skip ?_
        refine TQ.block_normal ?_
        refine TQ.next ?_
        refine TC.region ?_
        refine TL.val rfl rfl rfl (Y.bin rfl rfl rfl (br_addN (n := 1) (by omega))) ?_
        refine TL.val rfl rfl rfl (Y.move rfl rfl) ?_
        refine TL.nil ?_
        refine TQ.loopF (k + 1) (⟨by omega, any_take_no hno hx (by simp [tgA]; exact ⟨by simpa using g4_7, by simpa using c1⟩)⟩) (by omega) ⟨rfl, trivial⟩ (by (repeat first | apply Grow.refl | apply Grow.step | apply Grow.app)) ?_ ?_ ?_
        · kernel_rfl
        · rfl
        · simp only [List.cons_append, List.nil_append]
          exact ett
  · try simp only [decide_eq_true_eq, decide_eq_false_iff_not, Bool.not_eq_true', Bool.not_eq_false', Bool.and_eq_true, Bool.or_eq_true, Nat.not_lt, Nat.not_le, beq_iff_eq, bne_iff_ne] at c0
    refine TC.exit ?_
    refine TQ.then_exit ?_
    refine TQ.then_exit ?_
    refine TQ.block_exit ?_
    refine TQ.next ?_
    refine TC.seq ?_
    obtain rfl : k = l.length := by omega
    have hnt : tagged (SM c m f ⟨a, cap, l⟩).attrs = false := by rw [hat, tagged_any]; rw [List.take_length] at hno; exact hno
    refine TC.region ?_
    refine TL.val rfl rfl rfl (Y.loadAgg rfl ag43 rfl (Cels.all (cs := msgC c m f (.slice a l.length cap)) inn) (by first | rfl | ((try simp only [List.length_map, List.length_set, List.length_replicate]); omega))) ?_
    refine TL.as (.agg (msgC c m f (.slice a l.length cap))) (by rfl) ?_
    refine TL.eff rfl rfl rfl (X.alloc rfl zc43) ?_
    rintro _ _ ⟨b7, rfl, rfl⟩
    refine TL.eff0 rfl rfl (X.storeAll rfl (by kernel_rfl) (msgC_size c m f _) rfl rfl (msg_one c m f _ _ _) pul rfl) ?_
    rintro _ _ rfl
    refine TL.nil ?_
    refine TQ.next ?_
    refine TC.cutF (ι := Option Addr × Nat × Nat) [] (fun _ => True) (fun i => []) (fun i => [SA.blk b7 (msgC c m f (.slice i.1 (l ++ [one2 8 (some ⟨i.2.2, 0, none⟩) 20 z20]).length i.2.1)) 43, SA.owns 77 2 (.slice i.1 (l ++ [one2 8 (some ⟨i.2.2, 0, none⟩) 20 z20]).length i.2.1) (l ++ [one2 8 (some ⟨i.2.2, 0, none⟩) 20 z20]).length (Dat.cs (l ++ [one2 8 (some ⟨i.2.2, 0, none⟩) 20 z20])), SA.owns 5 1 (.slice (some ⟨i.2.2, 0, none⟩) 20 20) 20 (z20.map v8)]) (Ao := [SA.blk b7 (msgC c m f (.slice a l.length cap)) 43]) (Pulls.cons pul Pulls.nil) ?_ ?_
    · rintro L' hL'
      simp only [List.cons_append, List.nil_append] at hL'
      subst hL'
      refine TC.draws 9 [SA.blk b2 (msgC c m f (.slice a l.length cap)) 43, SA.blk b7 (msgC c m f (.slice a l.length cap)) 43, SA.dat (⟨a, cap, l⟩ : Sl At)] (by kernel_rfl) (by kernel_rfl) (by repeat first | exact holds_nil | refine holds_cons inn ?_) ?_
      refine TA.take 1 rfl rfl rfl rfl (by kernel_rfl) (by kernel_rfl) (by kernel_rfl) rfl (by kernel_rfl) (by kernel_rfl) (fun _ _ _ h => h) (by first | exact Y.fieldAddrJ rfl fo43_3 rfl nqq | exact Y.fieldAddr rfl fo43_3 rfl nqq) ?_
      refine TA.take 2 rfl rfl rfl rfl (by kernel_rfl) (by kernel_rfl) (by kernel_rfl) rfl (by kernel_rfl) (by kernel_rfl) (fun _ _ _ h => h) (Y.load rfl sc41 rfl celD) ?_
      refine TA.as (.slice a l.length cap) (by rfl) ?_
      refine TA.any (rs := [0, 4]) (by kernel_rfl) (by simp) ?_
      simp only [List.forall_mem_cons, List.not_mem_nil, false_implies, implies_true, and_true]
      refine ⟨?_, ?_⟩
      · skip
        refine TAo.eff rfl rfl rfl rfl (X.litA (bytes := 0) (z := .nilFunc) (cells := []) rfl Try.underlying41 zs77 rfl rfl rfl (by decide) (by decide) (by decide) rfl rfl rfl) ?_
        rintro _ _ ⟨g36, rfl, rfl⟩
        refine ⟨(Or.inr (by repeat first | exact holds_nil | refine holds_cons inn ?_)), ?_⟩
        refine TA.any (rs := [3, 4]) (by kernel_rfl) (by simp) ?_
        simp only [List.forall_mem_cons, List.not_mem_nil, false_implies, implies_true, and_true]
        refine ⟨?_, ?_⟩
        · skip
          refine TAo.eff rfl rfl rfl rfl (X.appendS rfl el41 rfl pul rfl (Src.reads (n := l.length) (cs := Dat.cs l) (A := SA.dat (⟨a, cap, l⟩ : Sl At)) Reads.datM Try.underlying41 inn) (by simp only [maxLen]; omega) (by omega)) ?_
          rintro _ _ ⟨a39, c39, rfl, rfl⟩
          simp only [Nat.zero_add, List.nil_append]
          refine ⟨(Or.inr (by repeat first | exact holds_nil | refine holds_cons inn ?_)), ?_⟩
          refine TA.one 4 (by kernel_rfl) rfl rfl rfl rfl (X.makeSlice (n := 20) (c := 20) rfl el30 rfl rfl (by omega) (by omega) (by simp only [maxLen]; omega)) ?_
          rintro _ _ ⟨g40, rfl, rfl⟩
          rw [made20]
          refine ⟨(Or.inr (by repeat first | exact holds_nil | refine holds_cons inn ?_)), ?_⟩
          refine TA.take 5 rfl rfl rfl rfl (by kernel_rfl) (by kernel_rfl) (by kernel_rfl) rfl (by kernel_rfl) (by kernel_rfl) (fun _ _ _ h => h) (Y.buildS (cells := #[v16 8, .slice (some ⟨g40, 0, none⟩) 20 20]) rfl rfl pl77 zc77 (by kernel_rfl)) ?_
          refine TA.one 6 (by kernel_rfl) rfl rfl rfl rfl (X.litA (bytes := 0) (z := .nilFunc) rfl Try.underlying41 zs77 rfl rfl rfl (by decide) (by decide) (by decide) rfl (cells := [v16 8, .slice (some ⟨g40, 0, none⟩) 20 20]) rfl rfl) ?_
          rintro _ _ ⟨g42, rfl, rfl⟩
          refine ⟨(Or.inr (by repeat first | exact holds_nil | refine holds_cons inn ?_)), ?_⟩
          refine TA.one 7 (by kernel_rfl) rfl rfl rfl rfl (X.appendS rfl el41 rfl pul rfl (by first | exact Src.owns Try.underlying41 inn | exact Src.rds Try.underlying41 inn | exact Src.reads (by assumption) Try.underlying41 inn) (by simp only [maxLen]; omega) (by omega)) ?_
          rintro _ _ ⟨a43, c43, rfl, rfl⟩
          rw [show Dat.cs l ++ [v16 8, .slice (some ⟨g40, 0, none⟩) 20 20] = Dat.cs (l ++ [one2 8 (some ⟨g40, 0, none⟩) 20 z20]) from (Dat.cs_app l [one2 8 (some ⟨g40, 0, none⟩) 20 z20]).symm, show l.length + 1 = (l ++ [one2 8 (some ⟨g40, 0, none⟩) 20 z20]).length by simp]
          refine ⟨(Or.inr (by repeat first | exact holds_nil | refine holds_cons inn ?_)), ?_⟩
          refine TA.take 8 rfl rfl rfl rfl (by kernel_rfl) (by kernel_rfl) (by kernel_rfl) rfl (by kernel_rfl) (by kernel_rfl) (fun _ _ _ h => h) (by first | exact Y.fieldAddrJ rfl fo43_3 rfl nqq | exact Y.fieldAddr rfl fo43_3 rfl nqq) ?_
          refine TA.one0 9 (by kernel_rfl) rfl rfl rfl (X.store rfl (by kernel_rfl) rfl rfl rfl pul (by rw [msgC_size]; omega) rfl) ?_
          rintro _ _ rfl
          rw [show (msgC c m f (.slice a l.length cap)).setIfInBounds 14 (.slice a43 (l ++ [one2 8 (some ⟨g40, 0, none⟩) 20 z20]).length c43) = msgC c m f (.slice a43 (l ++ [one2 8 (some ⟨g40, 0, none⟩) 20 z20]).length c43) from rfl]
          refine ⟨(Or.inl (by kernel_rfl)), ?_⟩
          refine TA.done (by kernel_rfl) ?_
          refine TQ.meetF (ι := Option Addr × Nat × Nat) (I := fun _ => True) (C := fun (_ : Option Addr × Nat × Nat) => []) (U := []) ((a43, c43, g40)) (trivial) trivial (by (repeat first | apply Grow.refl | apply Grow.step | apply Grow.app)) ?_ ?_
          · kernel_rfl
          · simp only [List.cons_append, List.nil_append]
            exact ett
        · skip
          refine TAo.eff rfl rfl rfl rfl (X.makeSlice (n := 20) (c := 20) rfl el30 rfl rfl (by omega) (by omega) (by simp only [maxLen]; omega)) ?_
          rintro _ _ ⟨g40, rfl, rfl⟩
          rw [made20]
          refine ⟨(Or.inr (by repeat first | exact holds_nil | refine holds_cons inn ?_)), ?_⟩
          refine TA.take 5 rfl rfl rfl rfl (by kernel_rfl) (by kernel_rfl) (by kernel_rfl) rfl (by kernel_rfl) (by kernel_rfl) (fun _ _ _ h => h) (Y.buildS (cells := #[v16 8, .slice (some ⟨g40, 0, none⟩) 20 20]) rfl rfl pl77 zc77 (by kernel_rfl)) ?_
          refine TA.any (rs := [3, 6]) (by kernel_rfl) (by simp) ?_
          simp only [List.forall_mem_cons, List.not_mem_nil, false_implies, implies_true, and_true]
          refine ⟨?_, ?_⟩
          · skip
            refine TAo.eff rfl rfl rfl rfl (X.appendS rfl el41 rfl pul rfl (Src.reads (n := l.length) (cs := Dat.cs l) (A := SA.dat (⟨a, cap, l⟩ : Sl At)) Reads.datM Try.underlying41 inn) (by simp only [maxLen]; omega) (by omega)) ?_
            rintro _ _ ⟨a39, c39, rfl, rfl⟩
            simp only [Nat.zero_add, List.nil_append]
            refine ⟨(Or.inr (by repeat first | exact holds_nil | refine holds_cons inn ?_)), ?_⟩
            refine TA.one 6 (by kernel_rfl) rfl rfl rfl rfl (X.litA (bytes := 0) (z := .nilFunc) rfl Try.underlying41 zs77 rfl rfl rfl (by decide) (by decide) (by decide) rfl (cells := [v16 8, .slice (some ⟨g40, 0, none⟩) 20 20]) rfl rfl) ?_
            rintro _ _ ⟨g42, rfl, rfl⟩
            refine ⟨(Or.inr (by repeat first | exact holds_nil | refine holds_cons inn ?_)), ?_⟩
            refine TA.one 7 (by kernel_rfl) rfl rfl rfl rfl (X.appendS rfl el41 rfl pul rfl (by first | exact Src.owns Try.underlying41 inn | exact Src.rds Try.underlying41 inn | exact Src.reads (by assumption) Try.underlying41 inn) (by simp only [maxLen]; omega) (by omega)) ?_
            rintro _ _ ⟨a43, c43, rfl, rfl⟩
            rw [show Dat.cs l ++ [v16 8, .slice (some ⟨g40, 0, none⟩) 20 20] = Dat.cs (l ++ [one2 8 (some ⟨g40, 0, none⟩) 20 z20]) from (Dat.cs_app l [one2 8 (some ⟨g40, 0, none⟩) 20 z20]).symm, show l.length + 1 = (l ++ [one2 8 (some ⟨g40, 0, none⟩) 20 z20]).length by simp]
            refine ⟨(Or.inr (by repeat first | exact holds_nil | refine holds_cons inn ?_)), ?_⟩
            refine TA.take 8 rfl rfl rfl rfl (by kernel_rfl) (by kernel_rfl) (by kernel_rfl) rfl (by kernel_rfl) (by kernel_rfl) (fun _ _ _ h => h) (by first | exact Y.fieldAddrJ rfl fo43_3 rfl nqq | exact Y.fieldAddr rfl fo43_3 rfl nqq) ?_
            refine TA.one0 9 (by kernel_rfl) rfl rfl rfl (X.store rfl (by kernel_rfl) rfl rfl rfl pul (by rw [msgC_size]; omega) rfl) ?_
            rintro _ _ rfl
            rw [show (msgC c m f (.slice a l.length cap)).setIfInBounds 14 (.slice a43 (l ++ [one2 8 (some ⟨g40, 0, none⟩) 20 z20]).length c43) = msgC c m f (.slice a43 (l ++ [one2 8 (some ⟨g40, 0, none⟩) 20 z20]).length c43) from rfl]
            refine ⟨(Or.inl (by kernel_rfl)), ?_⟩
            refine TA.done (by kernel_rfl) ?_
            refine TQ.meetF (ι := Option Addr × Nat × Nat) (I := fun _ => True) (C := fun (_ : Option Addr × Nat × Nat) => []) (U := []) ((a43, c43, g40)) (trivial) trivial (by (repeat first | apply Grow.refl | apply Grow.step | apply Grow.app)) ?_ ?_
            · kernel_rfl
            · simp only [List.cons_append, List.nil_append]
              exact ett
          · skip
            refine TAo.eff rfl rfl rfl rfl (X.litA (bytes := 0) (z := .nilFunc) rfl Try.underlying41 zs77 rfl rfl rfl (by decide) (by decide) (by decide) rfl (cells := [v16 8, .slice (some ⟨g40, 0, none⟩) 20 20]) rfl rfl) ?_
            rintro _ _ ⟨g42, rfl, rfl⟩
            refine ⟨(Or.inr (by repeat first | exact holds_nil | refine holds_cons inn ?_)), ?_⟩
            refine TA.one 3 (by kernel_rfl) rfl rfl rfl rfl (X.appendS rfl el41 rfl pul rfl (Src.reads (n := l.length) (cs := Dat.cs l) (A := SA.dat (⟨a, cap, l⟩ : Sl At)) Reads.datM Try.underlying41 inn) (by simp only [maxLen]; omega) (by omega)) ?_
            rintro _ _ ⟨a39, c39, rfl, rfl⟩
            simp only [Nat.zero_add, List.nil_append]
            refine ⟨(Or.inr (by repeat first | exact holds_nil | refine holds_cons inn ?_)), ?_⟩
            refine TA.one 7 (by kernel_rfl) rfl rfl rfl rfl (X.appendS rfl el41 rfl pul rfl (by first | exact Src.owns Try.underlying41 inn | exact Src.rds Try.underlying41 inn | exact Src.reads (by assumption) Try.underlying41 inn) (by simp only [maxLen]; omega) (by omega)) ?_
            rintro _ _ ⟨a43, c43, rfl, rfl⟩
            rw [show Dat.cs l ++ [v16 8, .slice (some ⟨g40, 0, none⟩) 20 20] = Dat.cs (l ++ [one2 8 (some ⟨g40, 0, none⟩) 20 z20]) from (Dat.cs_app l [one2 8 (some ⟨g40, 0, none⟩) 20 z20]).symm, show l.length + 1 = (l ++ [one2 8 (some ⟨g40, 0, none⟩) 20 z20]).length by simp]
            refine ⟨(Or.inr (by repeat first | exact holds_nil | refine holds_cons inn ?_)), ?_⟩
            refine TA.take 8 rfl rfl rfl rfl (by kernel_rfl) (by kernel_rfl) (by kernel_rfl) rfl (by kernel_rfl) (by kernel_rfl) (fun _ _ _ h => h) (by first | exact Y.fieldAddrJ rfl fo43_3 rfl nqq | exact Y.fieldAddr rfl fo43_3 rfl nqq) ?_
            refine TA.one0 9 (by kernel_rfl) rfl rfl rfl (X.store rfl (by kernel_rfl) rfl rfl rfl pul (by rw [msgC_size]; omega) rfl) ?_
            rintro _ _ rfl
            rw [show (msgC c m f (.slice a l.length cap)).setIfInBounds 14 (.slice a43 (l ++ [one2 8 (some ⟨g40, 0, none⟩) 20 z20]).length c43) = msgC c m f (.slice a43 (l ++ [one2 8 (some ⟨g40, 0, none⟩) 20 z20]).length c43) from rfl]
            refine ⟨(Or.inl (by kernel_rfl)), ?_⟩
            refine TA.done (by kernel_rfl) ?_
            refine TQ.meetF (ι := Option Addr × Nat × Nat) (I := fun _ => True) (C := fun (_ : Option Addr × Nat × Nat) => []) (U := []) ((a43, c43, g40)) (trivial) trivial (by (repeat first | apply Grow.refl | apply Grow.step | apply Grow.app)) ?_ ?_
            · kernel_rfl
            · simp only [List.cons_append, List.nil_append]
              exact ett
      · skip
        refine TAo.eff rfl rfl rfl rfl (X.makeSlice (n := 20) (c := 20) rfl el30 rfl rfl (by omega) (by omega) (by simp only [maxLen]; omega)) ?_
        rintro _ _ ⟨g40, rfl, rfl⟩
        rw [made20]
        refine ⟨(Or.inr (by repeat first | exact holds_nil | refine holds_cons inn ?_)), ?_⟩
        refine TA.take 5 rfl rfl rfl rfl (by kernel_rfl) (by kernel_rfl) (by kernel_rfl) rfl (by kernel_rfl) (by kernel_rfl) (fun _ _ _ h => h) (Y.buildS (cells := #[v16 8, .slice (some ⟨g40, 0, none⟩) 20 20]) rfl rfl pl77 zc77 (by kernel_rfl)) ?_
        refine TA.any (rs := [0, 6]) (by kernel_rfl) (by simp) ?_
        simp only [List.forall_mem_cons, List.not_mem_nil, false_implies, implies_true, and_true]
        refine ⟨?_, ?_⟩
        · skip
          refine TAo.eff rfl rfl rfl rfl (X.litA (bytes := 0) (z := .nilFunc) (cells := []) rfl Try.underlying41 zs77 rfl rfl rfl (by decide) (by decide) (by decide) rfl rfl rfl) ?_
          rintro _ _ ⟨g36, rfl, rfl⟩
          refine ⟨(Or.inr (by repeat first | exact holds_nil | refine holds_cons inn ?_)), ?_⟩
          refine TA.any (rs := [3, 6]) (by kernel_rfl) (by simp) ?_
          simp only [List.forall_mem_cons, List.not_mem_nil, false_implies, implies_true, and_true]
          refine ⟨?_, ?_⟩
          · skip
            refine TAo.eff rfl rfl rfl rfl (X.appendS rfl el41 rfl pul rfl (Src.reads (n := l.length) (cs := Dat.cs l) (A := SA.dat (⟨a, cap, l⟩ : Sl At)) Reads.datM Try.underlying41 inn) (by simp only [maxLen]; omega) (by omega)) ?_
            rintro _ _ ⟨a39, c39, rfl, rfl⟩
            simp only [Nat.zero_add, List.nil_append]
            refine ⟨(Or.inr (by repeat first | exact holds_nil | refine holds_cons inn ?_)), ?_⟩
            refine TA.one 6 (by kernel_rfl) rfl rfl rfl rfl (X.litA (bytes := 0) (z := .nilFunc) rfl Try.underlying41 zs77 rfl rfl rfl (by decide) (by decide) (by decide) rfl (cells := [v16 8, .slice (some ⟨g40, 0, none⟩) 20 20]) rfl rfl) ?_
            rintro _ _ ⟨g42, rfl, rfl⟩
            refine ⟨(Or.inr (by repeat first | exact holds_nil | refine holds_cons inn ?_)), ?_⟩
            refine TA.one 7 (by kernel_rfl) rfl rfl rfl rfl (X.appendS rfl el41 rfl pul rfl (by first | exact Src.owns Try.underlying41 inn | exact Src.rds Try.underlying41 inn | exact Src.reads (by assumption) Try.underlying41 inn) (by simp only [maxLen]; omega) (by omega)) ?_
            rintro _ _ ⟨a43, c43, rfl, rfl⟩
            rw [show Dat.cs l ++ [v16 8, .slice (some ⟨g40, 0, none⟩) 20 20] = Dat.cs (l ++ [one2 8 (some ⟨g40, 0, none⟩) 20 z20]) from (Dat.cs_app l [one2 8 (some ⟨g40, 0, none⟩) 20 z20]).symm, show l.length + 1 = (l ++ [one2 8 (some ⟨g40, 0, none⟩) 20 z20]).length by simp]
            refine ⟨(Or.inr (by repeat first | exact holds_nil | refine holds_cons inn ?_)), ?_⟩
            refine TA.take 8 rfl rfl rfl rfl (by kernel_rfl) (by kernel_rfl) (by kernel_rfl) rfl (by kernel_rfl) (by kernel_rfl) (fun _ _ _ h => h) (by first | exact Y.fieldAddrJ rfl fo43_3 rfl nqq | exact Y.fieldAddr rfl fo43_3 rfl nqq) ?_
            refine TA.one0 9 (by kernel_rfl) rfl rfl rfl (X.store rfl (by kernel_rfl) rfl rfl rfl pul (by rw [msgC_size]; omega) rfl) ?_
            rintro _ _ rfl
            rw [show (msgC c m f (.slice a l.length cap)).setIfInBounds 14 (.slice a43 (l ++ [one2 8 (some ⟨g40, 0, none⟩) 20 z20]).length c43) = msgC c m f (.slice a43 (l ++ [one2 8 (some ⟨g40, 0, none⟩) 20 z20]).length c43) from rfl]
            refine ⟨(Or.inl (by kernel_rfl)), ?_⟩
            refine TA.done (by kernel_rfl) ?_
            refine TQ.meetF (ι := Option Addr × Nat × Nat) (I := fun _ => True) (C := fun (_ : Option Addr × Nat × Nat) => []) (U := []) ((a43, c43, g40)) (trivial) trivial (by (repeat first | apply Grow.refl | apply Grow.step | apply Grow.app)) ?_ ?_
            · kernel_rfl
            · simp only [List.cons_append, List.nil_append]
              exact ett
          · skip
            refine TAo.eff rfl rfl rfl rfl (X.litA (bytes := 0) (z := .nilFunc) rfl Try.underlying41 zs77 rfl rfl rfl (by decide) (by decide) (by decide) rfl (cells := [v16 8, .slice (some ⟨g40, 0, none⟩) 20 20]) rfl rfl) ?_
            rintro _ _ ⟨g42, rfl, rfl⟩
            refine ⟨(Or.inr (by repeat first | exact holds_nil | refine holds_cons inn ?_)), ?_⟩
            refine TA.one 3 (by kernel_rfl) rfl rfl rfl rfl (X.appendS rfl el41 rfl pul rfl (Src.reads (n := l.length) (cs := Dat.cs l) (A := SA.dat (⟨a, cap, l⟩ : Sl At)) Reads.datM Try.underlying41 inn) (by simp only [maxLen]; omega) (by omega)) ?_
            rintro _ _ ⟨a39, c39, rfl, rfl⟩
            simp only [Nat.zero_add, List.nil_append]
            refine ⟨(Or.inr (by repeat first | exact holds_nil | refine holds_cons inn ?_)), ?_⟩
            refine TA.one 7 (by kernel_rfl) rfl rfl rfl rfl (X.appendS rfl el41 rfl pul rfl (by first | exact Src.owns Try.underlying41 inn | exact Src.rds Try.underlying41 inn | exact Src.reads (by assumption) Try.underlying41 inn) (by simp only [maxLen]; omega) (by omega)) ?_
            rintro _ _ ⟨a43, c43, rfl, rfl⟩
            rw [show Dat.cs l ++ [v16 8, .slice (some ⟨g40, 0, none⟩) 20 20] = Dat.cs (l ++ [one2 8 (some ⟨g40, 0, none⟩) 20 z20]) from (Dat.cs_app l [one2 8 (some ⟨g40, 0, none⟩) 20 z20]).symm, show l.length + 1 = (l ++ [one2 8 (some ⟨g40, 0, none⟩) 20 z20]).length by simp]
            refine ⟨(Or.inr (by repeat first | exact holds_nil | refine holds_cons inn ?_)), ?_⟩
            refine TA.take 8 rfl rfl rfl rfl (by kernel_rfl) (by kernel_rfl) (by kernel_rfl) rfl (by kernel_rfl) (by kernel_rfl) (fun _ _ _ h => h) (by first | exact Y.fieldAddrJ rfl fo43_3 rfl nqq | exact Y.fieldAddr rfl fo43_3 rfl nqq) ?_
            refine TA.one0 9 (by kernel_rfl) rfl rfl rfl (X.store rfl (by kernel_rfl) rfl rfl rfl pul (by rw [msgC_size]; omega) rfl) ?_
            rintro _ _ rfl
            rw [show (msgC c m f (.slice a l.length cap)).setIfInBounds 14 (.slice a43 (l ++ [one2 8 (some ⟨g40, 0, none⟩) 20 z20]).length c43) = msgC c m f (.slice a43 (l ++ [one2 8 (some ⟨g40, 0, none⟩) 20 z20]).length c43) from rfl]
            refine ⟨(Or.inl (by kernel_rfl)), ?_⟩
            refine TA.done (by kernel_rfl) ?_
            refine TQ.meetF (ι := Option Addr × Nat × Nat) (I := fun _ => True) (C := fun (_ : Option Addr × Nat × Nat) => []) (U := []) ((a43, c43, g40)) (trivial) trivial (by (repeat first | apply Grow.refl | apply Grow.step | apply Grow.app)) ?_ ?_
            · kernel_rfl
            · simp only [List.cons_append, List.nil_append]
              exact ett
        · skip
          refine TAo.eff rfl rfl rfl rfl (X.litA (bytes := 0) (z := .nilFunc) rfl Try.underlying41 zs77 rfl rfl rfl (by decide) (by decide) (by decide) rfl (cells := [v16 8, .slice (some ⟨g40, 0, none⟩) 20 20]) rfl rfl) ?_
          rintro _ _ ⟨g42, rfl, rfl⟩
          refine ⟨(Or.inr (by repeat first | exact holds_nil | refine holds_cons inn ?_)), ?_⟩
          refine TA.one 0 (by kernel_rfl) rfl rfl rfl rfl (X.litA (bytes := 0) (z := .nilFunc) (cells := []) rfl Try.underlying41 zs77 rfl rfl rfl (by decide) (by decide) (by decide) rfl rfl rfl) ?_
          rintro _ _ ⟨g36, rfl, rfl⟩
          refine ⟨(Or.inr (by repeat first | exact holds_nil | refine holds_cons inn ?_)), ?_⟩
          refine TA.one 3 (by kernel_rfl) rfl rfl rfl rfl (X.appendS rfl el41 rfl pul rfl (Src.reads (n := l.length) (cs := Dat.cs l) (A := SA.dat (⟨a, cap, l⟩ : Sl At)) Reads.datM Try.underlying41 inn) (by simp only [maxLen]; omega) (by omega)) ?_
          rintro _ _ ⟨a39, c39, rfl, rfl⟩
          simp only [Nat.zero_add, List.nil_append]
          refine ⟨(Or.inr (by repeat first | exact holds_nil | refine holds_cons inn ?_)), ?_⟩
          refine TA.one 7 (by kernel_rfl) rfl rfl rfl rfl (X.appendS rfl el41 rfl pul rfl (by first | exact Src.owns Try.underlying41 inn | exact Src.rds Try.underlying41 inn | exact Src.reads (by assumption) Try.underlying41 inn) (by simp only [maxLen]; omega) (by omega)) ?_
          rintro _ _ ⟨a43, c43, rfl, rfl⟩
          rw [show Dat.cs l ++ [v16 8, .slice (some ⟨g40, 0, none⟩) 20 20] = Dat.cs (l ++ [one2 8 (some ⟨g40, 0, none⟩) 20 z20]) from (Dat.cs_app l [one2 8 (some ⟨g40, 0, none⟩) 20 z20]).symm, show l.length + 1 = (l ++ [one2 8 (some ⟨g40, 0, none⟩) 20 z20]).length by simp]
          refine ⟨(Or.inr (by repeat first | exact holds_nil | refine holds_cons inn ?_)), ?_⟩
          refine TA.take 8 rfl rfl rfl rfl (by kernel_rfl) (by kernel_rfl) (by kernel_rfl) rfl (by kernel_rfl) (by kernel_rfl) (fun _ _ _ h => h) (by first | exact Y.fieldAddrJ rfl fo43_3 rfl nqq | exact Y.fieldAddr rfl fo43_3 rfl nqq) ?_
          refine TA.one0 9 (by kernel_rfl) rfl rfl rfl (X.store rfl (by kernel_rfl) rfl rfl rfl pul (by rw [msgC_size]; omega) rfl) ?_
          rintro _ _ rfl
          rw [show (msgC c m f (.slice a l.length cap)).setIfInBounds 14 (.slice a43 (l ++ [one2 8 (some ⟨g40, 0, none⟩) 20 z20]).length c43) = msgC c m f (.slice a43 (l ++ [one2 8 (some ⟨g40, 0, none⟩) 20 z20]).length c43) from rfl]
          refine ⟨(Or.inl (by kernel_rfl)), ?_⟩
          refine TA.done (by kernel_rfl) ?_
          refine TQ.meetF (ι := Option Addr × Nat × Nat) (I := fun _ => True) (C := fun (_ : Option Addr × Nat × Nat) => []) (U := []) ((a43, c43, g40)) (trivial) trivial (by (repeat first | apply Grow.refl | apply Grow.step | apply Grow.app)) ?_ ?_
          · kernel_rfl
          · simp only [List.cons_append, List.nil_append]
            exact ett
    · rintro ⟨fa, fc, gz⟩ - F' L' rfl hL'
      simp only [List.cons_append, List.nil_append] at hL'
      subst hL'
      try simp only
      obtain ⟨x, hx⟩ : ∃ x, x = one2 8 (some ⟨gz, 0, none⟩) 20 z20 := ⟨_, rfl⟩
      rw [← hx]
      have hfl : (l ++ [x]).length = l.length + 1 := by simp
      refine TC.seq ?_
      refine TC.region ?_
      refine TL.val rfl rfl rfl (Y.loadAgg rfl ag43 rfl (Cels.all (cs := msgC c m f (.slice fa (l ++ [x]).length fc)) inn) (by first | rfl | ((try simp only [List.length_map, List.length_set, List.length_replicate]); omega))) ?_
      refine TL.as (.agg (msgC c m f (.slice fa (l ++ [x]).length fc))) (by rfl) ?_
      refine TL.to ((Ent.hang (a := a) pul).trans (Ent.trans (Ent.mkAt (t := 8) (a := some ⟨gz, 0, none⟩) (bs := z20) (n := 20) (cap := 20) pul rfl) (Ent.addEl (x := one2 8 (some ⟨gz, 0, none⟩) 20 z20) pul pul))) ?_
      rw [← hx]
      refine TL.eff rfl rfl rfl (X.call rfl Try.func27 (by kernel_rfl) rfl rfl (Fn.preE (by repeat first | (with_reducible apply Ent.refl) | (apply Ent.cons; case h => first | (with_reducible (repeat first | apply Pull.here | apply Pull.there); done) | (repeat first | apply Pull.here | apply Pull.there))) (refBuildO_fn c m f fa fc (l ++ [x]) _))) ?_
      rintro _ _ ⟨_, ⟨ba, bc, rfl, rfl⟩, rfl⟩
      simp only [List.cons_append, List.nil_append]
      rw [show SM c m f ⟨fa, fc, l ++ [x]⟩ = (SM c m f ⟨a, cap, l⟩).more [(8, z20)] by rw [SM_more c m f a fa cap fc, hx]; rfl]
      obtain ⟨o, ho⟩ : ∃ o, o = ((SM c m f ⟨a, cap, l⟩).more [(8, z20)]).build := ⟨_, rfl⟩
      rw [← ho]
      refine TL.val rfl rfl rfl (Y.move rfl rfl) ?_
      refine TL.val rfl rfl rfl (Y.extract rfl rfl rfl) ?_
      refine TL.val rfl rfl rfl (Y.extract rfl rfl rfl) ?_
      refine TL.val rfl rfl rfl (Y.assign rfl rfl) ?_
      refine TL.val rfl rfl rfl (Y.assign rfl rfl) ?_
      refine TL.nil ?_
      refine TQ.next ?_
      refine TC.seq ?_
      refine TC.seq ?_
      refine TC.region ?_
      refine TL.val rfl rfl rfl (Y.move rfl rfl) ?_
      refine TL.val rfl rfl rfl (Y.bin rfl rfl rfl (br_neN (n := 0))) ?_
      refine TL.nil ?_
      refine TQ.next ?_
      refine TC.cond rfl (fun c2 => ?_) (fun c2 => ?_)
      · try simp only [decide_eq_true_eq, decide_eq_false_iff_not, Bool.not_eq_true', Bool.not_eq_false', Bool.and_eq_true, Bool.or_eq_true, Nat.not_lt, Nat.not_le, beq_iff_eq, bne_iff_ne] at c2
        have hS : (SM c m f ⟨a, cap, l⟩).sgn key = none := ref_no1 (z := z20) rfl rfl hnt (ho.symm.trans (oe_none c2))
        rw [hS]
        refine TC.to (Ent.nilOwn 5 1) ?_
        refine TC.seq ?_
        refine TC.region ?_
        refine TL.val rfl rfl rfl (Y.assign rfl rfl) ?_
        refine TL.val rfl rfl rfl (Y.assign rfl rfl) ?_
        refine TL.nil ?_
        refine TQ.next ?_
        refine TC.ret ?_
        refine TQ.then_ret ?_
        refine TQ.retE (res2 rfl rfl rfl) (⟨_, _, rfl, rfl⟩) ?_
        exact ett
      · try simp only [decide_eq_true_eq, decide_eq_false_iff_not, Bool.not_eq_true', Bool.not_eq_false', Bool.and_eq_true, Bool.or_eq_true, Nat.not_lt, Nat.not_le, beq_iff_eq, bne_iff_ne] at c2
        have hob := ob_some c2
        obtain ⟨b1, hb1⟩ : ∃ b1, b1 = ob o := ⟨_, rfl⟩
        rw [← hb1] at hob
        obtain ⟨hb24, hpre⟩ := ref_tag (z := z20) rfl rfl (ho.symm.trans hob)
        have hb15 : b1.length ≤ 1500 := by rw [hb1, ho]; exact ob_len
        rw [← hb1]
        refine TC.know (owns_cap (a := ba) inn) ?_
        rintro ⟨hk1, hk2, -⟩
        refine TC.skip ?_
        refine TQ.next ?_
        refine TC.seq ?_
        refine TC.region ?_
        refine TL.val rfl rfl rfl (Y.move rfl rfl) ?_
        refine TL.val rfl rfl rfl (Y.move rfl rfl) ?_
        refine TL.val rfl rfl rfl (Y.move rfl rfl) ?_
        refine TL.val rfl rfl rfl (Y.len rfl Try.underlying30 rfl) ?_
        refine TL.val rfl rfl rfl (Y.bin rfl rfl rfl (br_subN (n := 24) (by omega) (by omega))) ?_
        refine TL.val rfl rfl rfl (Y.sliceHi2 rfl Try.underlying30 sz5 rfl rfl (by omega)) ?_
        refine TL.to (Ent.headOwn (k := b1.length - 24) pul (by omega)) ?_
        refine TL.eff rfl rfl rfl (X.call rfl Try.func52 (by kernel_rfl) rfl rfl (Fn.preE (by repeat first | (with_reducible apply Ent.refl) | (apply Ent.cons; case h => first | (with_reducible (repeat first | apply Pull.here | apply Pull.there); done) | (repeat first | apply Pull.here | apply Pull.there))) (sha.refMac_fn _ _ _ key hk _ _ _ (b1.take (b1.length - 24)) (by rw [List.length_take]; omega) (by omega) (by omega) _))) ?_
        rintro _ _ ⟨rfl, rfl⟩
        rw [hpre]
        obtain ⟨t, ht⟩ : ∃ t, t = tagT (SM c m f ⟨a, cap, l⟩) key := ⟨_, rfl⟩
        have htl : t.length = 20 := by rw [ht]; exact tagT_len _ _
        rw [show sha.mac key (preT (SM c m f ⟨a, cap, l⟩)) = t from ht.symm]
        refine TL.eff rfl rfl rfl (X.alloc rfl zc101) ?_
        rintro _ _ ⟨b10, rfl, rfl⟩
        refine TL.eff0 rfl rfl (X.storeAll rfl (by kernel_rfl) (by simpa using htl) rfl rfl (fun v hv => one8 v (by simpa using hv)) pul (by simp)) ?_
        rintro _ _ rfl
        refine TL.nil ?_
        refine TQ.next ?_
        refine TC.seq ?_
        refine TC.know (owns_some (a := fa) inn (by omega)) ?_
        rintro ⟨fg, fo, rfl⟩
        obtain ⟨y, hy⟩ : ∃ y, y = one2 8 (some ⟨b10, 0, none⟩) 20 t := ⟨_, rfl⟩
        refine TC.draws 8 _ (by kernel_rfl) (by kernel_rfl) (fun _ h => h) ?_
        refine TA.take 0 rfl rfl rfl rfl (by kernel_rfl) (by kernel_rfl) (by kernel_rfl) rfl (by kernel_rfl) (by kernel_rfl) (fun _ _ _ h => h) (by first | exact Y.fieldAddrJ rfl fo43_3 rfl nqq | exact Y.fieldAddr rfl fo43_3 rfl nqq) ?_
        refine TA.take 1 rfl rfl rfl rfl (by kernel_rfl) (by kernel_rfl) (by kernel_rfl) rfl (by kernel_rfl) (by kernel_rfl) (fun _ _ _ h => h) (Y.load rfl sc41 rfl celD) ?_
        refine TA.as (.slice (some ⟨fg, fo, none⟩) (l ++ [x]).length fc) (by rfl) ?_
        refine TA.take 2 rfl rfl rfl rfl (by kernel_rfl) (by kernel_rfl) (by kernel_rfl) rfl (by kernel_rfl) (by kernel_rfl) (fun _ _ _ h => h) (by first | exact Y.fieldAddrJ rfl fo43_3 rfl nqq | exact Y.fieldAddr rfl fo43_3 rfl nqq) ?_
        refine TA.take 3 rfl rfl rfl rfl (by kernel_rfl) (by kernel_rfl) (by kernel_rfl) rfl (by kernel_rfl) (by kernel_rfl) (fun _ _ _ h => h) (Y.load rfl sc41 rfl celD) ?_
        refine TA.as (.slice a l.length cap) (by rfl) ?_
        refine TA.take 4 rfl rfl rfl rfl (by kernel_rfl) (by kernel_rfl) (by kernel_rfl) rfl (by kernel_rfl) (by kernel_rfl) (fun _ _ _ h => h) (Y.len rfl Try.underlying41 rfl) ?_
        refine TA.take 5 rfl rfl rfl rfl (by kernel_rfl) (by kernel_rfl) (by kernel_rfl) rfl (by kernel_rfl) (by kernel_rfl) (fun _ _ _ h => h) (Y.sliceArr rfl Try.underlying101 sz5 rfl) ?_
        refine TA.takeP 6 rfl rfl rfl rfl (by kernel_rfl) (by kernel_rfl) (by kernel_rfl) rfl (fun _ _ _ h => h) (by first | exact Y.indexSlB rfl sl41 rfl rfl (by omega) nqq | exact Y.indexSl rfl sl41 rfl rfl (by omega) nqq) ?_
        refine TA.take 7 rfl rfl rfl rfl (by kernel_rfl) (by kernel_rfl) (by kernel_rfl) rfl (by kernel_rfl) (by kernel_rfl) (fun _ _ _ h => h) (by first | exact Y.fieldAddrJ rfl fo77_1 rfl nqq | exact Y.fieldAddr rfl fo77_1 rfl nqq) ?_
        refine TA.one0 8 (by kernel_rfl) rfl rfl rfl (X.storeOwn (off := fo) (cs' := Dat.cs (l ++ [y])) (j := l.length * 2 + 1) rfl (by kernel_rfl) rfl rfl rfl rfl pul (by omega) (by rw [hx, hy]; exact cs_val l 8 _ _ ⟨some ⟨b10, 0, none⟩, 20, t⟩ (by rw [show Sl.v (⟨some ⟨b10, 0, none⟩, 20, t⟩ : Bs) = .slice (some ⟨b10, 0, none⟩) t.length 20 from rfl, htl]))) ?_
        rintro _ _ rfl
        refine ⟨(Or.inl (by kernel_rfl)), ?_⟩
        refine TA.done (by kernel_rfl) ?_
        have hfl1 : (l ++ [y]).length = l.length + 1 := by simp
        rw [show (l ++ [x]).length = (l ++ [y]).length by simp]
        refine TQ.next ?_
        refine TC.seq ?_
        refine TC.draws 7 [SA.blk b7 (msgC c m f (.slice (some ⟨fg, fo, none⟩) (l ++ [y]).length fc)) 43] (by kernel_rfl) (by kernel_rfl) (by repeat first | exact holds_nil | refine holds_cons inn ?_) ?_
        refine TA.take 0 rfl rfl rfl rfl (by kernel_rfl) (by kernel_rfl) (by kernel_rfl) rfl (by kernel_rfl) (by kernel_rfl) (fun _ _ _ h => h) (by first | exact Y.fieldAddrJ rfl fo43_3 rfl nqq | exact Y.fieldAddr rfl fo43_3 rfl nqq) ?_
        refine TA.take 1 rfl rfl rfl rfl (by kernel_rfl) (by kernel_rfl) (by kernel_rfl) rfl (by kernel_rfl) (by kernel_rfl) (fun _ _ _ h => h) (Y.load rfl sc41 rfl celD) ?_
        refine TA.as (.slice (some ⟨fg, fo, none⟩) (l ++ [y]).length fc) (by rfl) ?_
        refine TA.one 2 (by kernel_rfl) rfl rfl rfl rfl (X.makeSlice (n := 4) (c := 4) rfl el30 rfl rfl (by omega) (by omega) (by simp only [maxLen]; omega)) ?_
        rintro _ _ ⟨g69, rfl, rfl⟩
        rw [made4]
        refine ⟨(Or.inr (by repeat first | exact holds_nil | refine holds_cons inn ?_)), ?_⟩
        refine TA.take 3 rfl rfl rfl rfl (by kernel_rfl) (by kernel_rfl) (by kernel_rfl) rfl (by kernel_rfl) (by kernel_rfl) (fun _ _ _ h => h) (Y.buildS (cells := #[v16 32808, .slice (some ⟨g69, 0, none⟩) 4 4]) rfl rfl pl77 zc77 (by kernel_rfl)) ?_
        refine TA.one 4 (by kernel_rfl) rfl rfl rfl rfl (X.litA (bytes := 0) (z := .nilFunc) rfl Try.underlying41 zs77 rfl rfl rfl (by decide) (by decide) (by decide) rfl (cells := [v16 32808, .slice (some ⟨g69, 0, none⟩) 4 4]) rfl rfl) ?_
        rintro _ _ ⟨g71, rfl, rfl⟩
        refine ⟨(Or.inr (by repeat first | exact holds_nil | refine holds_cons inn ?_)), ?_⟩
        refine TA.one 5 (by kernel_rfl) rfl rfl rfl rfl (X.appendS rfl el41 rfl pul rfl (by first | exact Src.owns Try.underlying41 inn | exact Src.rds Try.underlying41 inn | exact Src.reads (by assumption) Try.underlying41 inn) (by simp only [maxLen]; omega) (by omega)) ?_
        rintro _ _ ⟨a72, c72, rfl, rfl⟩
        rw [show Dat.cs (l ++ [y]) ++ [v16 32808, .slice (some ⟨g69, 0, none⟩) 4 4] = Dat.cs (l ++ [y] ++ [one2 32808 (some ⟨g69, 0, none⟩) 4 z4]) from (Dat.cs_app (l ++ [y]) [one2 32808 (some ⟨g69, 0, none⟩) 4 z4]).symm, show (l ++ [y]).length + 1 = (l ++ [y] ++ [one2 32808 (some ⟨g69, 0, none⟩) 4 z4]).length by simp]
        refine ⟨(Or.inr (by repeat first | exact holds_nil | refine holds_cons inn ?_)), ?_⟩
        refine TA.take 6 rfl rfl rfl rfl (by kernel_rfl) (by kernel_rfl) (by kernel_rfl) rfl (by kernel_rfl) (by kernel_rfl) (fun _ _ _ h => h) (by first | exact Y.fieldAddrJ rfl fo43_3 rfl nqq | exact Y.fieldAddr rfl fo43_3 rfl nqq) ?_
        refine TA.one0 7 (by kernel_rfl) rfl rfl rfl (X.store rfl (by kernel_rfl) rfl rfl rfl pul (by rw [msgC_size]; omega) rfl) ?_
        rintro _ _ rfl
        rw [show (msgC c m f (.slice (some ⟨fg, fo, none⟩) (l ++ [y]).length fc)).setIfInBounds 14 (.slice a72 (l ++ [y] ++ [one2 32808 (some ⟨g69, 0, none⟩) 4 z4]).length c72) = msgC c m f (.slice a72 (l ++ [y] ++ [one2 32808 (some ⟨g69, 0, none⟩) 4 z4]).length c72) from rfl]
        refine ⟨(Or.inl (by kernel_rfl)), ?_⟩
        refine TA.done (by kernel_rfl) ?_
        obtain ⟨u, hu⟩ : ∃ u, u = one2 32808 (some ⟨g69, 0, none⟩) 4 z4 := ⟨_, rfl⟩
        rw [← hu]
        have hfl2 : (l ++ [y] ++ [u]).length = l.length + 2 := by simp
        refine TQ.next ?_
        refine TC.seq ?_
        refine TC.region ?_
        refine TL.val rfl rfl rfl (Y.loadAgg rfl ag43 rfl (Cels.all (cs := msgC c m f (.slice a72 (l ++ [y] ++ [u]).length c72)) inn) (by first | rfl | ((try simp only [List.length_map, List.length_set, List.length_replicate]); omega))) ?_
        refine TL.as (.agg (msgC c m f (.slice a72 (l ++ [y] ++ [u]).length c72))) (by rfl) ?_
        refine TL.to ((Ent.hang (a := a) pul).trans (Ent.trans (Ent.mkAtB (t := 8) (b := b10) pul htl (by decide)) (Ent.addEl (x := one2 8 (some ⟨b10, 0, none⟩) 20 t) pul pul))) ?_
        rw [← hy]
        refine TL.to (Ent.trans (Ent.mkAt (t := 32808) (a := some ⟨g69, 0, none⟩) (bs := z4) (n := 4) (cap := 4) pul rfl) (Ent.addEl (x := one2 32808 (some ⟨g69, 0, none⟩) 4 z4) (ys := l ++ [y]) pul pul)) ?_
        rw [← hu]
        refine TL.eff rfl rfl rfl (X.call rfl Try.func27 (by kernel_rfl) rfl rfl (Fn.preE (by repeat first | (with_reducible apply Ent.refl) | (apply Ent.cons; case h => first | (with_reducible (repeat first | apply Pull.here | apply Pull.there); done) | (repeat first | apply Pull.here | apply Pull.there))) (refBuildO_fn c m f a72 c72 (l ++ [y] ++ [u]) _))) ?_
        rintro _ _ ⟨_, ⟨ba2, bc2, rfl, rfl⟩, rfl⟩
        simp only [List.cons_append, List.nil_append]
        rw [show SM c m f ⟨a72, c72, l ++ [y] ++ [u]⟩ = (SM c m f ⟨a, cap, l⟩).more [(8, tagT (SM c m f ⟨a, cap, l⟩) key), (32808, z4)] by rw [List.append_assoc, SM_more c m f a a72 cap c72, hy, hu, ← ht]; rfl]
        obtain ⟨o2, ho2⟩ : ∃ o, o = ((SM c m f ⟨a, cap, l⟩).more [(8, tagT (SM c m f ⟨a, cap, l⟩) key), (32808, z4)]).build := ⟨_, rfl⟩
        rw [← ho2]
        refine TL.val rfl rfl rfl (Y.move rfl rfl) ?_
        refine TL.val rfl rfl rfl (Y.extract rfl rfl rfl) ?_
        refine TL.val rfl rfl rfl (Y.extract rfl rfl rfl) ?_
        refine TL.val rfl rfl rfl (Y.assign rfl rfl) ?_
        refine TL.val rfl rfl rfl (Y.assign rfl rfl) ?_
        refine TL.nil ?_
        refine TQ.next ?_
        refine TC.seq ?_
        refine TC.seq ?_
        refine TC.region ?_
        refine TL.val rfl rfl rfl (Y.move rfl rfl) ?_
        refine TL.val rfl rfl rfl (Y.bin rfl rfl rfl (br_neN (n := 0))) ?_
        refine TL.nil ?_
        refine TQ.next ?_
        refine TC.cond rfl (fun c3 => ?_) (fun c3 => ?_)
        · try simp only [decide_eq_true_eq, decide_eq_false_iff_not, Bool.not_eq_true', Bool.not_eq_false', Bool.and_eq_true, Bool.or_eq_true, Nat.not_lt, Nat.not_le, beq_iff_eq, bne_iff_ne] at c3
          have hS : (SM c m f ⟨a, cap, l⟩).sgn key = none := ref_no2 (z := z4) rfl rfl hnt (ho2.symm.trans (oe_none c3))
          rw [hS]
          refine TC.to (Ent.nilOwn 5 1) ?_
          refine TC.seq ?_
          refine TC.region ?_
          refine TL.val rfl rfl rfl (Y.assign rfl rfl) ?_
          refine TL.val rfl rfl rfl (Y.assign rfl rfl) ?_
          refine TL.nil ?_
          refine TQ.next ?_
          refine TC.ret ?_
          refine TQ.then_ret ?_
          refine TQ.retE (res2 rfl rfl rfl) (⟨_, _, rfl, rfl⟩) ?_
          exact ett
        · try simp only [decide_eq_true_eq, decide_eq_false_iff_not, Bool.not_eq_true', Bool.not_eq_false', Bool.and_eq_true, Bool.or_eq_true, Nat.not_lt, Nat.not_le, beq_iff_eq, bne_iff_ne] at c3
          have hob2 := ob_some c3
          obtain ⟨b2, hb2⟩ : ∃ b2, b2 = ob o2 := ⟨_, rfl⟩
          rw [← hb2] at hob2
          obtain ⟨h8, h15, hsg⟩ := ref_sum (z := z4) rfl rfl hnt (ho2.symm.trans hob2)
          rw [← hb2, hsg]
          refine TC.know (owns_cap (a := ba2) inn) ?_
          rintro ⟨hk3, hk4, -⟩
          refine TC.know (owns_some (a := ba2) inn (by omega)) ?_
          rintro ⟨og, oo, rfl⟩
          refine TC.skip ?_
          refine TQ.next ?_
          refine TC.seq ?_
          refine TC.region ?_
          refine TL.val rfl rfl rfl (Y.move rfl rfl) ?_
          refine TL.val rfl rfl rfl (Y.move rfl rfl) ?_
          refine TL.val rfl rfl rfl (Y.len rfl Try.underlying30 rfl) ?_
          refine TL.val rfl rfl rfl (Y.bin rfl rfl rfl (br_subN (n := 8) (by omega) (by omega))) ?_
          refine TL.val rfl rfl rfl (Y.sliceHi2 rfl Try.underlying30 sz5 rfl rfl (by omega)) ?_
          refine TL.eff rfl rfl rfl (X.call rfl Try.func53 (by kernel_rfl) rfl rfl (Fn.preE (by repeat first | (with_reducible apply Ent.refl) | (apply Ent.cons; case h => first | (with_reducible (repeat first | apply Pull.here | apply Pull.there); done) | (repeat first | apply Pull.here | apply Pull.there))) (sha.refCrc_fn (SA.owns 5 1 (.slice (some ⟨og, oo, none⟩) b2.length bc2) b2.length (b2.map v8)) _ (b2.length - 8) bc2 (b2.take (b2.length - 8)) (Reads.head8 Reads.owns (by omega)) (by rw [List.length_take]; omega) _))) ?_
          rintro _ _ ⟨rfl, rfl⟩
          refine TL.val rfl rfl rfl (Y.bin rfl rfl rfl (br_xor32 (y := 1398035790))) ?_
          refine TL.as (v32 (crcX (b2.take (b2.length - 8)))) (by rfl) ?_
          refine TL.val rfl rfl rfl (Y.assign rfl rfl) ?_
          refine TL.nil ?_
          obtain ⟨q, hq⟩ : ∃ q, q = crcX (b2.take (b2.length - 8)) := ⟨_, rfl⟩
          rw [← hq]
          refine TQ.next ?_
          refine TC.seq ?_
          refine TC.draws 7 _ (by kernel_rfl) (by kernel_rfl) (fun _ h => h) ?_
          refine TA.takeP 0 rfl rfl rfl rfl (by kernel_rfl) (by kernel_rfl) (by kernel_rfl) rfl (fun _ _ _ h => h) (Y.move rfl rfl) ?_
          refine TA.takeP 1 rfl rfl rfl rfl (by kernel_rfl) (by kernel_rfl) (by kernel_rfl) rfl (fun _ _ _ h => h) (Y.move rfl rfl) ?_
          refine TA.takeP 2 rfl rfl rfl rfl (by kernel_rfl) (by kernel_rfl) (by kernel_rfl) rfl (fun _ _ _ h => h) (Y.len rfl Try.underlying30 rfl) ?_
          refine TA.takeP 3 rfl rfl rfl rfl (by kernel_rfl) (by kernel_rfl) (by kernel_rfl) rfl (fun _ _ _ h => h) (Y.bin rfl rfl rfl (br_subN (n := 4) (by omega) (by omega))) ?_
          refine TA.take 4 rfl rfl rfl rfl (by kernel_rfl) (by kernel_rfl) (by kernel_rfl) rfl (by kernel_rfl) (by kernel_rfl) (fun _ _ _ h => h) (Y.sliceLo rfl Try.underlying30 sz5 rfl rfl (by omega)) ?_
          refine TA.as (.slice (some ⟨og, oo + (b2.length - 4), none⟩) 4 (bc2 - (b2.length - 4))) (by rw [cutV_some (by omega), Nat.mul_one, show b2.length - (b2.length - 4) = 4 by omega]) ?_
          refine TA.takeP 5 rfl rfl rfl rfl (by kernel_rfl) (by kernel_rfl) (by kernel_rfl) rfl (fun _ _ _ h => h) (Y.move rfl rfl) ?_
          refine TA.one 6 (by kernel_rfl) rfl rfl rfl rfl (X.call rfl Try.func54 (by kernel_rfl) rfl rfl (Fn.preE (by repeat first | (with_reducible apply Ent.refl) | (apply Ent.cons; case h => first | (with_reducible (repeat first | apply Pull.here | apply Pull.there); done) | (repeat first | apply Pull.here | apply Pull.there))) (r1.Four_fn _ _))) ?_
          rintro _ _ ⟨g94, rfl, rfl⟩
          refine ⟨(Or.inr (fun w h A hA => h A (by with_reducible (first | assumption | (repeat first | exact In.there hA | apply In.there))))), ?_⟩
          refine TA.one 7 (by kernel_rfl) rfl rfl rfl rfl (X.copyOwn (m := 4) (j := b2.length - 4) (cs' := (b2.take (b2.length - 4) ++ be4 q).map v8) rfl Try.underlying30 (by kernel_rfl) rfl rfl rfl (by first | exact Src.owns Try.underlying30 inn) pul (by omega) (by omega) (copy_tail b2 (be4 q) rfl (by omega))) ?_
          rintro _ _ ⟨rfl, rfl⟩
          refine ⟨(Or.inl (by kernel_rfl)), ?_⟩
          refine TA.done (by kernel_rfl) ?_
          rw [show ob (some (b2.take (b2.length - 4) ++ be4 q)) = b2.take (b2.length - 4) ++ be4 q from rfl, show (b2.take (b2.length - 4) ++ be4 q).length = b2.length by rw [List.length_append, List.length_take, be4_len]; omega]
          refine TQ.next ?_
          refine TC.seq ?_
          refine TC.region ?_
          refine TL.val rfl rfl rfl (Y.move rfl rfl) ?_
          refine TL.val rfl rfl rfl (Y.assign rfl rfl) ?_
          refine TL.val rfl rfl rfl (Y.assign rfl rfl) ?_
          refine TL.nil ?_
          refine TQ.next ?_
          refine TC.ret ?_
          refine TQ.retE (res2 rfl rfl rfl) (⟨_, _, rfl, rfl⟩) ?_
          exact ett
end stun
end Go.Proofs.Ytpmplnkempcmjaa

/- Checking signed messages, walked: the program's and the document's. -/
namespace Go.Proofs.Ytpmplnkempcmjaa
set_option linter.unusedVariables false
set_option linter.unusedSimpArgs false
open Go.RowKit
namespace stun
namespace FxStunCk
set_option maxRecDepth 100000
theorem ag43 : Program.aggN Try.prog 43 = some 15 := by kernel_rfl
theorem ag58 : Program.aggN Try.prog 58 = some 15 := by kernel_rfl
theorem fo43_3 : Program.fieldOff Try.prog 43 3 = some 14 := by kernel_rfl
theorem fo58_3 : Program.fieldOff Try.prog 58 3 = some 14 := by kernel_rfl
theorem pl43 : Program.places Try.prog 43 = some [(0, 1), (1, 1), (2, 12), (14, 1)] := by kernel_rfl
theorem pl58 : Program.places Try.prog 58 = some [(0, 1), (1, 1), (2, 12), (14, 1)] := by kernel_rfl
theorem sc41 : Program.isSc Try.prog 41 = true := by kernel_rfl
theorem sc56 : Program.isSc Try.prog 56 = true := by kernel_rfl
theorem sz43 : (Try.prog.info? 43).map (·.size) = some 15 := by kernel_rfl
theorem sz58 : (Try.prog.info? 58).map (·.size) = some 15 := by kernel_rfl
theorem sz76 : (Try.prog.info? 76).map (·.size) = some 2 := by kernel_rfl
theorem sz77 : (Try.prog.info? 77).map (·.size) = some 2 := by kernel_rfl
theorem zc43 : Program.zeroC Try.prog 43 = some #[.int .i64 0, .int .i64 0, .int .u8 0, .int .u8 0, .int .u8 0, .int .u8 0, .int .u8 0, .int .u8 0, .int .u8 0, .int .u8 0, .int .u8 0, .int .u8 0, .int .u8 0, .int .u8 0, .slice none 0 0] := by kernel_rfl
theorem zc58 : Program.zeroC Try.prog 58 = some #[.int .i64 0, .int .i64 0, .int .u8 0, .int .u8 0, .int .u8 0, .int .u8 0, .int .u8 0, .int .u8 0, .int .u8 0, .int .u8 0, .int .u8 0, .int .u8 0, .int .u8 0, .int .u8 0, .slice none 0 0] := by kernel_rfl
end FxStunCk
open FxStunCk
--REG bytes.Equal : _ _ ⟨rfl, rfl⟩ => (stun.Equal_fn _ _ _ _ _ _ _ _ _ _ (by first | exact Reads.rds | exact Reads.owns) (by first | exact Reads.rds | exact Reads.owns) _)
theorem Equal_fn (A B : SA) (a : Option Addr) (n cap : Nat) (x : List UInt8) (b : Option Addr) (m cb : Nat) (y : List UInt8) (hA : Reads A 1 (.slice a n cap) n (x.map v8)) (hB : Reads B 1 (.slice b m cb) m (y.map v8)) (L : List SA) :
    Fn Try.prog 59 [.slice a n cap, .slice b m cb] (A :: B :: L) (fun v L' => v = .bool (decide (x = y)) ∧ L' = A :: B :: L) := by
  refine Fn.of (N := 10) Try.func59 rfl rfl ?_
  intro Xh
  refine TC.seq ?_
  refine TC.region ?_
  refine TL.val rfl rfl rfl (Y.assign rfl rfl) ?_
  refine TL.nil ?_
  refine TQ.next ?_
  refine TC.seq ?_
  refine TC.region ?_
  refine TL.val rfl rfl rfl (Y.move rfl rfl) ?_
  refine TL.val rfl rfl rfl (by first | exact Y.str rfl Try.underlying30 Try.underlying9 Try.underlying5 rfl Reads.rds inn | exact Y.str rfl Try.underlying30 Try.underlying9 Try.underlying5 rfl Reads.owns inn | exact Y.str rfl Try.underlying30 Try.underlying9 Try.underlying5 rfl (by assumption) inn) ?_
  refine TL.val rfl rfl rfl (Y.move rfl rfl) ?_
  refine TL.val rfl rfl rfl (by first | exact Y.str rfl Try.underlying30 Try.underlying9 Try.underlying5 rfl Reads.rds inn | exact Y.str rfl Try.underlying30 Try.underlying9 Try.underlying5 rfl Reads.owns inn | exact Y.str rfl Try.underlying30 Try.underlying9 Try.underlying5 rfl (by assumption) inn) ?_
  refine TL.val rfl rfl rfl (Y.eqStr rfl rfl rfl) ?_
  refine TL.val rfl rfl rfl (Y.assign rfl rfl) ?_
  refine TL.nil ?_
  refine TQ.next ?_
  refine TC.ret ?_
  refine TQ.retE (res1 rfl rfl) (⟨rfl, rfl⟩) ?_
  exact ett
theorem PR.len16 {b : List UInt8} {c m : Int} {f : Nat → UInt8} {l : List At} {e : Nat} (h : PR b c m f (l.map pl) e) : l.length ≤ 16 := by
  rcases h with ⟨rfl, h⟩ | ⟨rfl, rfl, rfl, rfl, h, -⟩
  · have := (good_parts ((build_iff _ _).1 h).1).2.2.2.2.2
    simpa only [List.length_map] using this
  · have : l = [] := by simpa using h
    subst this; simp
theorem SM_take (c m : Int) (f : Nat → UInt8) (a : Option Addr) (cap k : Nat) (l : List At) : SM c m f ⟨a, cap, l.take k⟩ = ⟨c, m, idL f, (l.map pl).take k⟩ := by simp [SM, List.map_take]
theorem ob_none' {o : Option (List UInt8)} (h : oe o = 0) : o = some (ob o) := ob_some h
theorem CR.bad {b key : List UInt8} {c0 m0 : Int} {f0 : Nat → UInt8} {l0 : List At} {e0 : Nat} (hP : PR b c0 m0 f0 (l0.map pl) e0) (h : ¬ e0 = 0) : CR b key 0 0 (fun _ => 0) [] e0 := by
  refine ⟨c0, m0, f0, _, e0, hP, .inr ⟨fun g => h g.1, rfl, rfl, rfl, rfl, ?_⟩⟩
  rw [if_neg h]
  rcases hP with ⟨rfl, -⟩ | ⟨rfl, -⟩
  · exact absurd rfl h
  · rfl
theorem CR.few {b key : List UInt8} {c0 m0 : Int} {f0 : Nat → UInt8} {l0 : List At} {e0 : Nat} (hP : PR b c0 m0 f0 (l0.map pl) e0) (h0 : e0 = 0) (h : l0.length < 2) : CR b key 0 0 (fun _ => 0) [] 4 := by
  refine ⟨c0, m0, f0, _, e0, hP, .inr ⟨fun g => ?_, rfl, rfl, rfl, rfl, by rw [if_pos h0]⟩⟩
  have := g.2.1
  rw [List.length_map] at this; omega
theorem CR.not {b key : List UInt8} {c0 m0 : Int} {f0 : Nat → UInt8} {l0 : List At} {e0 : Nat} (hP : PR b c0 m0 f0 (l0.map pl) e0) (h0 : e0 = 0) (h : (⟨c0, m0, idL f0, (l0.map pl).take (l0.length - 2)⟩ : SMsg).sgn key ≠ some b) : CR b key 0 0 (fun _ => 0) [] 4 := by
  refine ⟨c0, m0, f0, _, e0, hP, .inr ⟨fun g => h (by have := g.2.2; rwa [List.length_map] at this), rfl, rfl, rfl, rfl, by rw [if_pos h0]⟩⟩
theorem CR.yes {b key : List UInt8} {c0 m0 : Int} {f0 : Nat → UInt8} {l0 : List At} {e0 : Nat} (hP : PR b c0 m0 f0 (l0.map pl) e0) (h0 : e0 = 0) (h2 : 2 ≤ l0.length) (h : (⟨c0, m0, idL f0, (l0.map pl).take (l0.length - 2)⟩ : SMsg).sgn key = some b) : CR b key c0 m0 f0 (l0.map pl) 0 :=
  ⟨c0, m0, f0, _, e0, hP, .inl ⟨h0, by rw [List.length_map]; exact h2, by rw [List.length_map]; exact h, rfl, rfl, rfl, rfl, rfl⟩⟩
theorem sgn_ne1 {o : Option (List UInt8)} {b : List UInt8} (h : ¬ oe o = 0) : o ≠ some b := fun e => by subst e; exact h rfl
theorem sgn_ne2 {o : Option (List UInt8)} {b : List UInt8} (h : ¬ b = ob o) : o ≠ some b := fun e => by subst e; exact h rfl
theorem sgn_eq2 {o : Option (List UInt8)} {b : List UInt8} (h0 : oe o = 0) (h : b = ob o) : o = some b := by rw [h]; exact ob_some h0
set_option maxHeartbeats 1000000 in
--REG rostrum/stun.Check : _ _ ⟨kc{d}, km{d}, kf{d}, ka{d}, kcap{d}, kl{d}, ke{d}, rfl, hC{d}, rfl⟩ => (stun.Check_fn _ _ _ _ (by first | assumption | rfl) (by omega) _ _ _ _ (by first | assumption | rfl) (by omega) _)
theorem Check_fn (a : Option Addr) (n cap : Nat) (b : List UInt8) (hn : b.length = n) (hr : n ≤ 140737488351232) (ka : Option Addr) (kn kc : Nat) (key : List UInt8) (hk : key.length = kn) (hkl : kn ≤ 140737488351232) (L : List SA) :
    Fn Try.prog 38 [.slice a n cap, .slice ka kn kc] (SA.rds 1 (.slice a n cap) n (b.map v8) :: SA.rds 1 (.slice ka kn kc) kn (key.map v8) :: L)
      (fun v L' => ∃ c m f' a' cap' l' e, v = .tuple #[.agg (msgC c m f' (.slice a' (l' : List At).length cap')), vN e] ∧ CR b key c m f' (l'.map pl) e ∧
        L' = SA.dat (⟨a', cap', l'⟩ : Sl At) :: SA.rds 1 (.slice a n cap) n (b.map v8) :: SA.rds 1 (.slice ka kn kc) kn (key.map v8) :: L) := by
  refine Fn.of (N := 51) Try.func38 rfl rfl ?_
  intro Xh
  refine TC.seq ?_
  refine TC.region ?_
  refine TL.eff rfl rfl rfl (X.alloc rfl zc58) ?_
  rintro _ _ ⟨b4, rfl, rfl⟩
  refine TL.val rfl rfl rfl (Y.assign rfl rfl) ?_
  refine TL.nil ?_
  refine TQ.next ?_
  refine TC.seq ?_
  refine TC.region ?_
  refine TL.val rfl rfl rfl (Y.move rfl rfl) ?_
  refine TL.eff rfl rfl rfl (X.call rfl Try.func17 (by kernel_rfl) rfl rfl (Fn.preE (by repeat first | (with_reducible apply Ent.refl) | (apply Ent.cons; case h => first | (with_reducible (repeat first | apply Pull.here | apply Pull.there); done) | (repeat first | apply Pull.here | apply Pull.there))) (stun.Parse_fn _ _ _ _ (by first | assumption | rfl) (by omega) _))) ?_
  rintro _ _ ⟨pc13, pm13, pf13, pa13, pcap13, pl13, pe13, rfl, hP13, rfl⟩
  refine TL.val rfl rfl rfl (Y.move rfl rfl) ?_
  refine TL.val rfl rfl rfl (Y.extract rfl rfl rfl) ?_
  refine TL.val rfl rfl rfl (Y.extract rfl rfl rfl) ?_
  refine TL.eff rfl rfl rfl (X.alloc rfl zc58) ?_
  rintro _ _ ⟨b6, rfl, rfl⟩
  refine TL.eff0 rfl rfl (X.storeAll rfl (by kernel_rfl) (msgC_size _ _ _ _) rfl rfl (msg_one _ _ _ _ _ _) pul rfl) ?_
  rintro _ _ rfl
  refine TL.val rfl rfl rfl (Y.assign rfl rfl) ?_
  refine TL.nil ?_
  refine TQ.next ?_
  refine TC.seq ?_
  refine TC.seq ?_
  refine TC.region ?_
  refine TL.val rfl rfl rfl (Y.move rfl rfl) ?_
  refine TL.val rfl rfl rfl (Y.bin rfl rfl rfl (br_neN (n := 0))) ?_
  refine TL.nil ?_
  have hl16 := PR.len16 hP13
  refine TQ.next ?_
  refine TC.cond rfl (fun c0 => ?_) (fun c0 => ?_)
  · try simp only [decide_eq_true_eq, decide_eq_false_iff_not, Bool.not_eq_true', Bool.not_eq_false', Bool.and_eq_true, Bool.or_eq_true, Nat.not_lt, Nat.not_le, beq_iff_eq, bne_iff_ne] at c0
    refine TC.seq ?_
    refine TC.region ?_
    refine TL.val rfl rfl rfl (Y.buildS rfl rfl pl58 zc58 rfl) ?_
    refine TL.as (.agg zmsg) (by rfl) ?_
    refine TL.val rfl rfl rfl (Y.move rfl rfl) ?_
    refine TL.eff0 rfl rfl (by first | exact X.storeAll rfl sz58 (by rfl) rfl rfl (allOne (by rfl)) pul (by rfl) | exact X.storeAll rfl sz58 szz rfl rfl (by simp [Value.oneCell']) pul szz | exact X.storeAgg rfl sz58 szz rfl rfl (by simp [Value.oneCell']) pul szz (writeM (by ((try simp only [List.length_set, List.length_map, List.length_append, List.length_replicate]); omega)))) ?_
    rintro _ _ rfl
    refine TL.val rfl rfl rfl (Y.assign rfl rfl) ?_
    refine TL.nil ?_
    have hC := CR.bad (key := key) hP13 c0
    refine TQ.next ?_
    refine TC.ret ?_
    refine TQ.then_ret ?_
    refine TQ.retE (resL rfl (Res.agg rfl ag58 (by first | exact Cels.all (cs := zmsg) inn | exact Cels.all (cs := msgC pc13 pm13 pf13 (.slice pa13 pl13.length pcap13)) inn) (by first | rfl | assumption | omega) (Res.tmp rfl Res.nil))) ((by first | exact ⟨0, 0, fun _ => 0, none, 0, [], _, rfl, hC, rfl⟩ | exact ⟨_, _, _, _, _, pl13, 0, rfl, hC, rfl⟩)) ?_
    exact (by first | exact Ent.trans Ent.dat0 ett | exact ett)
  · try simp only [decide_eq_true_eq, decide_eq_false_iff_not, Bool.not_eq_true', Bool.not_eq_false', Bool.and_eq_true, Bool.or_eq_true, Nat.not_lt, Nat.not_le, beq_iff_eq, bne_iff_ne] at c0
    refine TC.skip ?_
    refine TQ.next ?_
    refine TC.seq ?_
    refine TC.region ?_
    refine TL.val rfl rfl rfl (Y.loadAgg rfl ag58 rfl (Cels.all (cs := msgC pc13 pm13 pf13 (.slice pa13 pl13.length pcap13)) inn) (by first | rfl | ((try simp only [List.length_map, List.length_set, List.length_replicate]); omega))) ?_
    refine TL.as (.agg (msgC pc13 pm13 pf13 (.slice pa13 pl13.length pcap13))) (by rfl) ?_
    refine TL.eff rfl rfl rfl (X.alloc rfl zc58) ?_
    rintro _ _ ⟨b8, rfl, rfl⟩
    refine TL.eff0 rfl rfl (X.storeAll rfl (by kernel_rfl) (msgC_size _ _ _ _) rfl rfl (msg_one _ _ _ _ _ _) pul rfl) ?_
    rintro _ _ rfl
    refine TL.nil ?_
    refine TQ.next ?_
    refine TC.seq ?_
    refine TC.seq ?_
    refine TC.know (dat_cap (a := pa13) (l := pl13) inn) ?_
    rintro ⟨hc1, hc2, -⟩
    have hmx : max ((pl13.length : Int) - 2) 0 = ((pl13.length - 2 : Nat) : Int) := by omega
    refine TC.region ?_
    refine TL.val rfl rfl rfl (by first | exact Y.fieldAddrJ rfl fo58_3 rfl nqq | exact Y.fieldAddr rfl fo58_3 rfl nqq) ?_
    refine TL.val rfl rfl rfl (Y.load rfl sc56 rfl celD) ?_
    refine TL.as (.slice pa13 pl13.length pcap13) (by rfl) ?_
    refine TL.val rfl rfl rfl (by first | exact Y.fieldAddrJ rfl fo58_3 rfl nqq | exact Y.fieldAddr rfl fo58_3 rfl nqq) ?_
    refine TL.val rfl rfl rfl (Y.load rfl sc56 rfl celD) ?_
    refine TL.as (.slice pa13 pl13.length pcap13) (by rfl) ?_
    refine TL.val rfl rfl rfl (Y.len rfl Try.underlying56 rfl) ?_
    refine TL.val rfl rfl rfl (Y.bin rfl rfl rfl (br_subI (n := 2) (by omega) (by omega))) ?_
    refine TL.val rfl rfl rfl (Y.maxI (n := 0) rfl rfl rfl) ?_
    refine TL.as (vN (pl13.length - 2)) (by rw [hmx]) ?_
    refine TL.val rfl rfl rfl (Y.sliceHi2 rfl Try.underlying56 sz76 rfl rfl (by omega)) ?_
    refine TL.val rfl rfl rfl (by first | exact Y.fieldAddrJ rfl fo58_3 rfl nqq | exact Y.fieldAddr rfl fo58_3 rfl nqq) ?_
    refine TL.eff0 rfl rfl (X.store rfl (by kernel_rfl) rfl rfl rfl pul (by rw [msgC_size]; omega) rfl) ?_
    rintro _ _ rfl
    rw [show (msgC pc13 pm13 pf13 (.slice pa13 pl13.length pcap13)).setIfInBounds 14 (.slice pa13 (pl13.length - 2) pcap13) = msgC pc13 pm13 pf13 (.slice pa13 (pl13.length - 2) pcap13) from rfl]
    refine TL.nil ?_
    refine TQ.next ?_
    refine TC.seq ?_
    refine TC.region ?_
    refine TL.val rfl rfl rfl (by first | exact Y.fieldAddrJ rfl fo58_3 rfl nqq | exact Y.fieldAddr rfl fo58_3 rfl nqq) ?_
    refine TL.val rfl rfl rfl (Y.load rfl sc56 rfl celD) ?_
    refine TL.as (.slice pa13 pl13.length pcap13) (by rfl) ?_
    refine TL.val rfl rfl rfl (Y.len rfl Try.underlying56 rfl) ?_
    refine TL.val rfl rfl rfl (Y.bin rfl rfl rfl (br_ltN (n := 2))) ?_
    refine TL.nil ?_
    refine TQ.next ?_
    refine TC.cond rfl (fun c1 => ?_) (fun c1 => ?_)
    · try simp only [decide_eq_true_eq, decide_eq_false_iff_not, Bool.not_eq_true', Bool.not_eq_false', Bool.and_eq_true, Bool.or_eq_true, Nat.not_lt, Nat.not_le, beq_iff_eq, bne_iff_ne] at c1
      refine TC.seq ?_
      refine TC.region ?_
      refine TL.val rfl rfl rfl (Y.buildS rfl rfl pl58 zc58 rfl) ?_
      refine TL.as (.agg zmsg) (by rfl) ?_
      refine TL.eff0 rfl rfl (by first | exact X.storeAll rfl sz58 (by rfl) rfl rfl (allOne (by rfl)) pul (by rfl) | exact X.storeAll rfl sz58 szz rfl rfl (by simp [Value.oneCell']) pul szz | exact X.storeAgg rfl sz58 szz rfl rfl (by simp [Value.oneCell']) pul szz (writeM (by ((try simp only [List.length_set, List.length_map, List.length_append, List.length_replicate]); omega)))) ?_
      rintro _ _ rfl
      refine TL.val rfl rfl rfl (Y.assign rfl rfl) ?_
      refine TL.nil ?_
      have hC := CR.few (key := key) hP13 c0 c1
      refine TQ.next ?_
      refine TC.ret ?_
      refine TQ.then_ret ?_
      refine TQ.retE (resL rfl (Res.agg rfl ag58 (by first | exact Cels.all (cs := zmsg) inn | exact Cels.all (cs := msgC pc13 pm13 pf13 (.slice pa13 pl13.length pcap13)) inn) (by first | rfl | assumption | omega) (Res.tmp rfl Res.nil))) ((by first | exact ⟨0, 0, fun _ => 0, none, 0, [], _, rfl, hC, rfl⟩ | exact ⟨_, _, _, _, _, pl13, 0, rfl, hC, rfl⟩)) ?_
      exact (by first | exact Ent.trans Ent.dat0 ett | exact ett)
    · try simp only [decide_eq_true_eq, decide_eq_false_iff_not, Bool.not_eq_true', Bool.not_eq_false', Bool.and_eq_true, Bool.or_eq_true, Nat.not_lt, Nat.not_le, beq_iff_eq, bne_iff_ne] at c1
      refine TC.skip ?_
      refine TQ.next ?_
      refine TC.seq ?_
      refine TC.seq ?_
      obtain ⟨tk, htk0⟩ : ∃ tk, tk = pl13.take (pl13.length - 2) := ⟨_, rfl⟩
      have htk : pl13.length - 2 = tk.length := by rw [htk0, List.length_take]; omega
      have hSM : SM pc13 pm13 pf13 ⟨pa13, pcap13, tk⟩ = (⟨pc13, pm13, idL pf13, (pl13.map pl).take (pl13.length - 2)⟩ : SMsg) := by rw [htk0]; exact SM_take _ _ _ _ _ _ _
      refine TC.to (Ent.headSl (a := pa13) (l := pl13) (k := pl13.length - 2) pul (by omega)) ?_
      rw [← htk0, htk]
      refine TC.region ?_
      refine TL.val rfl rfl rfl (Y.loadAgg rfl ag58 rfl (Cels.all (cs := msgC pc13 pm13 pf13 (.slice pa13 tk.length pcap13)) inn) (by first | rfl | ((try simp only [List.length_map, List.length_set, List.length_replicate]); omega))) ?_
      refine TL.as (.agg (msgC pc13 pm13 pf13 (.slice pa13 tk.length pcap13))) (by rfl) ?_
      refine TL.val rfl rfl rfl (Y.move rfl rfl) ?_
      refine TL.eff rfl rfl rfl (X.call rfl Try.func21 (by kernel_rfl) rfl rfl (Fn.preE (by repeat first | (with_reducible apply Ent.refl) | (apply Ent.cons; case h => first | (with_reducible (repeat first | apply Pull.here | apply Pull.there); done) | (repeat first | apply Pull.here | apply Pull.there))) (Sign_fn pc13 pm13 pf13 pa13 pcap13 tk _ _ _ key hk hkl _))) ?_
      rintro _ _ ⟨a38, c38, rfl, rfl⟩
      rw [hSM]
      obtain ⟨o, ho⟩ : ∃ o, o = (⟨pc13, pm13, idL pf13, (pl13.map pl).take (pl13.length - 2)⟩ : SMsg).sgn key := ⟨_, rfl⟩
      rw [← ho]
      refine TL.val rfl rfl rfl (Y.move rfl rfl) ?_
      refine TL.val rfl rfl rfl (Y.extract rfl rfl rfl) ?_
      refine TL.val rfl rfl rfl (Y.extract rfl rfl rfl) ?_
      refine TL.val rfl rfl rfl (Y.assign rfl rfl) ?_
      refine TL.val rfl rfl rfl (Y.assign rfl rfl) ?_
      refine TL.nil ?_
      refine TQ.next ?_
      refine TC.seq ?_
      refine TC.region ?_
      refine TL.val rfl rfl rfl (Y.move rfl rfl) ?_
      refine TL.val rfl rfl rfl (Y.bin rfl rfl rfl (br_neN (n := 0))) ?_
      refine TL.val rfl rfl rfl (Y.move rfl rfl) ?_
      refine TL.case (fun g9_2 => ?_) (fun g9_2 => ?_)
      · try simp only [decide_eq_true_eq, decide_eq_false_iff_not, Bool.not_eq_true', Bool.not_eq_false', Nat.not_lt, Nat.not_le, beq_iff_eq, bne_iff_ne] at g9_2
        refine TL.not rfl rfl rfl ?_
        refine TL.not rfl rfl rfl ?_
        refine TL.not rfl rfl rfl ?_
        refine TL.not rfl rfl rfl ?_
        refine TL.val rfl rfl rfl (Y.pick_t rfl rfl rfl) ?_
        refine TL.nil ?_
        refine TQ.next ?_
        refine TC.cond_t rfl ?_
        refine TC.seq ?_
        refine TC.region ?_
        refine TL.val rfl rfl rfl (Y.buildS rfl rfl pl58 zc58 rfl) ?_
        refine TL.as (.agg zmsg) (by rfl) ?_
        refine TL.eff0 rfl rfl (by first | exact X.storeAll rfl sz58 (by rfl) rfl rfl (allOne (by rfl)) pul (by rfl) | exact X.storeAll rfl sz58 szz rfl rfl (by simp [Value.oneCell']) pul szz | exact X.storeAgg rfl sz58 szz rfl rfl (by simp [Value.oneCell']) pul szz (writeM (by ((try simp only [List.length_set, List.length_map, List.length_append, List.length_replicate]); omega)))) ?_
        rintro _ _ rfl
        refine TL.val rfl rfl rfl (Y.assign rfl rfl) ?_
        refine TL.nil ?_
        have hC : CR b key 0 0 (fun _ => 0) [] 4 := CR.not hP13 c0 (by rw [← ho]; first | exact sgn_ne1 g9_2 | exact sgn_ne2 c2)
        refine TQ.next ?_
        refine TC.ret ?_
        refine TQ.then_ret ?_
        refine TQ.retE (resL rfl (Res.agg rfl ag58 (by first | exact Cels.all (cs := zmsg) inn | exact Cels.all (cs := msgC pc13 pm13 pf13 (.slice pa13 pl13.length pcap13)) inn) (by first | rfl | assumption | omega) (Res.tmp rfl Res.nil))) ((by first | exact ⟨0, 0, fun _ => 0, none, 0, [], _, rfl, hC, rfl⟩ | exact ⟨_, _, _, _, _, pl13, 0, rfl, hC, rfl⟩)) ?_
        exact (by first | exact Ent.trans Ent.dat0 ett | exact ett)
      · try simp only [decide_eq_true_eq, decide_eq_false_iff_not, Bool.not_eq_true', Bool.not_eq_false', Nat.not_lt, Nat.not_le, beq_iff_eq, bne_iff_ne] at g9_2
        refine TL.valG rfl rfl rfl (Y.move rfl rfl) ?_
        refine TL.valG rfl rfl rfl (Y.move rfl rfl) ?_
        refine TL.effG rfl rfl rfl (X.call rfl Try.func59 (by kernel_rfl) rfl rfl (Fn.preE (by repeat first | (with_reducible apply Ent.refl) | (apply Ent.cons; case h => first | (with_reducible (repeat first | apply Pull.here | apply Pull.there); done) | (repeat first | apply Pull.here | apply Pull.there))) (Equal_fn (SA.rds 1 (.slice a n cap) n (b.map v8)) (SA.owns 5 1 (.slice a38 (ob o).length c38) (ob o).length ((ob o).map v8)) _ _ _ b _ _ _ (ob o) Reads.rds Reads.owns _))) ?_
        rintro _ _ ⟨rfl, rfl⟩
        refine TL.valG rfl rfl rfl (Y.not rfl rfl) ?_
        refine TL.val rfl rfl rfl (Y.pick_f rfl rfl rfl) ?_
        refine TL.nil ?_
        refine TQ.next ?_
        refine TC.cond rfl (fun c2 => ?_) (fun c2 => ?_)
        · try simp only [decide_eq_true_eq, decide_eq_false_iff_not, Bool.not_eq_true', Bool.not_eq_false', Bool.and_eq_true, Bool.or_eq_true, Nat.not_lt, Nat.not_le, beq_iff_eq, bne_iff_ne] at c2
          refine TC.seq ?_
          refine TC.region ?_
          refine TL.val rfl rfl rfl (Y.buildS rfl rfl pl58 zc58 rfl) ?_
          refine TL.as (.agg zmsg) (by rfl) ?_
          refine TL.eff0 rfl rfl (by first | exact X.storeAll rfl sz58 (by rfl) rfl rfl (allOne (by rfl)) pul (by rfl) | exact X.storeAll rfl sz58 szz rfl rfl (by simp [Value.oneCell']) pul szz | exact X.storeAgg rfl sz58 szz rfl rfl (by simp [Value.oneCell']) pul szz (writeM (by ((try simp only [List.length_set, List.length_map, List.length_append, List.length_replicate]); omega)))) ?_
          rintro _ _ rfl
          refine TL.val rfl rfl rfl (Y.assign rfl rfl) ?_
          refine TL.nil ?_
          have hC : CR b key 0 0 (fun _ => 0) [] 4 := CR.not hP13 c0 (by rw [← ho]; first | exact sgn_ne1 g9_2 | exact sgn_ne2 c2)
          refine TQ.next ?_
          refine TC.ret ?_
          refine TQ.then_ret ?_
          refine TQ.retE (resL rfl (Res.agg rfl ag58 (by first | exact Cels.all (cs := zmsg) inn | exact Cels.all (cs := msgC pc13 pm13 pf13 (.slice pa13 pl13.length pcap13)) inn) (by first | rfl | assumption | omega) (Res.tmp rfl Res.nil))) ((by first | exact ⟨0, 0, fun _ => 0, none, 0, [], _, rfl, hC, rfl⟩ | exact ⟨_, _, _, _, _, pl13, 0, rfl, hC, rfl⟩)) ?_
          exact (by first | exact Ent.trans Ent.dat0 ett | exact ett)
        · try simp only [decide_eq_true_eq, decide_eq_false_iff_not, Bool.not_eq_true', Bool.not_eq_false', Bool.and_eq_true, Bool.or_eq_true, Nat.not_lt, Nat.not_le, beq_iff_eq, bne_iff_ne] at c2
          refine TC.skip ?_
          refine TQ.next ?_
          refine TC.seq ?_
          have hC : CR b key pc13 pm13 pf13 (pl13.map pl) 0 := CR.yes hP13 c0 (by omega) (by rw [← ho]; exact sgn_eq2 g9_2 c2)
          refine TC.region ?_
          refine TL.val rfl rfl rfl (Y.loadAgg rfl ag58 rfl (Cels.all (cs := msgC pc13 pm13 pf13 (.slice pa13 pl13.length pcap13)) inn) (by first | rfl | ((try simp only [List.length_map, List.length_set, List.length_replicate]); omega))) ?_
          refine TL.as (.agg (msgC pc13 pm13 pf13 (.slice pa13 pl13.length pcap13))) (by rfl) ?_
          refine TL.eff0 rfl rfl (X.storeAll rfl (by kernel_rfl) (msgC_size _ _ _ _) rfl rfl (msg_one _ _ _ _ _ _) pul rfl) ?_
          rintro _ _ rfl
          refine TL.val rfl rfl rfl (Y.assign rfl rfl) ?_
          refine TL.nil ?_
          refine TQ.next ?_
          refine TC.ret ?_
          refine TQ.retE (resL rfl (Res.agg rfl ag58 (by first | exact Cels.all (cs := zmsg) inn | exact Cels.all (cs := msgC pc13 pm13 pf13 (.slice pa13 pl13.length pcap13)) inn) (by first | rfl | assumption | omega) (Res.tmp rfl Res.nil))) ((by first | exact ⟨0, 0, fun _ => 0, none, 0, [], _, rfl, hC, rfl⟩ | exact ⟨_, _, _, _, _, pl13, 0, rfl, hC, rfl⟩)) ?_
          exact (by first | exact Ent.trans Ent.dat0 ett | exact ett)
set_option maxHeartbeats 1000000 in
--REG rostrum/rostrumref04.Check : _ _ ⟨kc{d}, km{d}, kf{d}, ka{d}, kcap{d}, kl{d}, ke{d}, rfl, hC{d}, rfl⟩ => (stun.refCheck_fn _ _ _ _ (by first | assumption | rfl) (by omega) _ _ _ _ (by first | assumption | rfl) (by omega) _)
theorem refCheck_fn (a : Option Addr) (n cap : Nat) (b : List UInt8) (hn : b.length = n) (hr : n ≤ 140737488351232) (ka : Option Addr) (kn kc : Nat) (key : List UInt8) (hk : key.length = kn) (hkl : kn ≤ 140737488351232) (L : List SA) :
    Fn Try.prog 12 [.slice a n cap, .slice ka kn kc] (SA.rds 1 (.slice a n cap) n (b.map v8) :: SA.rds 1 (.slice ka kn kc) kn (key.map v8) :: L)
      (fun v L' => ∃ c m f' a' cap' l' e, v = .tuple #[.agg (msgC c m f' (.slice a' (l' : List At).length cap')), vN e] ∧ CR b key c m f' (l'.map pl) e ∧
        L' = SA.dat (⟨a', cap', l'⟩ : Sl At) :: SA.rds 1 (.slice a n cap) n (b.map v8) :: SA.rds 1 (.slice ka kn kc) kn (key.map v8) :: L) := by
  refine Fn.of (N := 50) Try.func12 rfl rfl ?_
  intro Xh
  refine TC.seq ?_
  refine TC.region ?_
  refine TL.eff rfl rfl rfl (X.alloc rfl zc43) ?_
  rintro _ _ ⟨b4, rfl, rfl⟩
  refine TL.val rfl rfl rfl (Y.assign rfl rfl) ?_
  refine TL.nil ?_
  refine TQ.next ?_
  refine TC.seq ?_
  refine TC.region ?_
  refine TL.val rfl rfl rfl (Y.move rfl rfl) ?_
  refine TL.eff rfl rfl rfl (X.call rfl Try.func29 (by kernel_rfl) rfl rfl (Fn.preE (by repeat first | (with_reducible apply Ent.refl) | (apply Ent.cons; case h => first | (with_reducible (repeat first | apply Pull.here | apply Pull.there); done) | (repeat first | apply Pull.here | apply Pull.there))) (stun.refParse_fn _ _ _ _ (by first | assumption | rfl) (by omega) _))) ?_
  rintro _ _ ⟨pc13, pm13, pf13, pa13, pcap13, pl13, pe13, rfl, hP13, rfl⟩
  refine TL.val rfl rfl rfl (Y.move rfl rfl) ?_
  refine TL.val rfl rfl rfl (Y.extract rfl rfl rfl) ?_
  refine TL.val rfl rfl rfl (Y.extract rfl rfl rfl) ?_
  refine TL.eff rfl rfl rfl (X.alloc rfl zc43) ?_
  rintro _ _ ⟨b6, rfl, rfl⟩
  refine TL.eff0 rfl rfl (X.storeAll rfl (by kernel_rfl) (msgC_size _ _ _ _) rfl rfl (msg_one _ _ _ _ _ _) pul rfl) ?_
  rintro _ _ rfl
  refine TL.val rfl rfl rfl (Y.assign rfl rfl) ?_
  refine TL.nil ?_
  refine TQ.next ?_
  refine TC.seq ?_
  refine TC.seq ?_
  refine TC.region ?_
  refine TL.val rfl rfl rfl (Y.move rfl rfl) ?_
  refine TL.val rfl rfl rfl (Y.bin rfl rfl rfl (br_neN (n := 0))) ?_
  refine TL.nil ?_
  have hl16 := PR.len16 hP13
  refine TQ.next ?_
  refine TC.cond rfl (fun c0 => ?_) (fun c0 => ?_)
  · try simp only [decide_eq_true_eq, decide_eq_false_iff_not, Bool.not_eq_true', Bool.not_eq_false', Bool.and_eq_true, Bool.or_eq_true, Nat.not_lt, Nat.not_le, beq_iff_eq, bne_iff_ne] at c0
    refine TC.seq ?_
    refine TC.region ?_
    refine TL.val rfl rfl rfl (Y.buildS rfl rfl pl43 zc43 rfl) ?_
    refine TL.as (.agg zmsg) (by rfl) ?_
    refine TL.val rfl rfl rfl (Y.move rfl rfl) ?_
    refine TL.eff0 rfl rfl (by first | exact X.storeAll rfl sz43 (by rfl) rfl rfl (allOne (by rfl)) pul (by rfl) | exact X.storeAll rfl sz43 szz rfl rfl (by simp [Value.oneCell']) pul szz | exact X.storeAgg rfl sz43 szz rfl rfl (by simp [Value.oneCell']) pul szz (writeM (by ((try simp only [List.length_set, List.length_map, List.length_append, List.length_replicate]); omega)))) ?_
    rintro _ _ rfl
    refine TL.val rfl rfl rfl (Y.assign rfl rfl) ?_
    refine TL.nil ?_
    have hC := CR.bad (key := key) hP13 c0
    refine TQ.next ?_
    refine TC.ret ?_
    refine TQ.then_ret ?_
    refine TQ.retE (resL rfl (Res.agg rfl ag43 (by first | exact Cels.all (cs := zmsg) inn | exact Cels.all (cs := msgC pc13 pm13 pf13 (.slice pa13 pl13.length pcap13)) inn) (by first | rfl | assumption | omega) (Res.tmp rfl Res.nil))) ((by first | exact ⟨0, 0, fun _ => 0, none, 0, [], _, rfl, hC, rfl⟩ | exact ⟨_, _, _, _, _, pl13, 0, rfl, hC, rfl⟩)) ?_
    exact (by first | exact Ent.trans Ent.dat0 ett | exact ett)
  · try simp only [decide_eq_true_eq, decide_eq_false_iff_not, Bool.not_eq_true', Bool.not_eq_false', Bool.and_eq_true, Bool.or_eq_true, Nat.not_lt, Nat.not_le, beq_iff_eq, bne_iff_ne] at c0
    refine TC.skip ?_
    refine TQ.next ?_
    refine TC.seq ?_
    refine TC.region ?_
    refine TL.val rfl rfl rfl (by first | exact Y.fieldAddrJ rfl fo43_3 rfl nqq | exact Y.fieldAddr rfl fo43_3 rfl nqq) ?_
    refine TL.val rfl rfl rfl (Y.load rfl sc41 rfl celD) ?_
    refine TL.as (.slice pa13 pl13.length pcap13) (by rfl) ?_
    refine TL.val rfl rfl rfl (Y.len rfl Try.underlying41 rfl) ?_
    refine TL.val rfl rfl rfl (Y.assign rfl rfl) ?_
    refine TL.nil ?_
    refine TQ.next ?_
    refine TC.seq ?_
    refine TC.seq ?_
    refine TC.region ?_
    refine TL.val rfl rfl rfl (Y.move rfl rfl) ?_
    refine TL.val rfl rfl rfl (Y.bin rfl rfl rfl (br_ltN (n := 2))) ?_
    refine TL.nil ?_
    refine TQ.next ?_
    refine TC.cond rfl (fun c1 => ?_) (fun c1 => ?_)
    · try simp only [decide_eq_true_eq, decide_eq_false_iff_not, Bool.not_eq_true', Bool.not_eq_false', Bool.and_eq_true, Bool.or_eq_true, Nat.not_lt, Nat.not_le, beq_iff_eq, bne_iff_ne] at c1
      refine TC.seq ?_
      refine TC.region ?_
      refine TL.val rfl rfl rfl (Y.buildS rfl rfl pl43 zc43 rfl) ?_
      refine TL.as (.agg zmsg) (by rfl) ?_
      refine TL.eff0 rfl rfl (by first | exact X.storeAll rfl sz43 (by rfl) rfl rfl (allOne (by rfl)) pul (by rfl) | exact X.storeAll rfl sz43 szz rfl rfl (by simp [Value.oneCell']) pul szz | exact X.storeAgg rfl sz43 szz rfl rfl (by simp [Value.oneCell']) pul szz (writeM (by ((try simp only [List.length_set, List.length_map, List.length_append, List.length_replicate]); omega)))) ?_
      rintro _ _ rfl
      refine TL.val rfl rfl rfl (Y.assign rfl rfl) ?_
      refine TL.nil ?_
      have hC := CR.few (key := key) hP13 c0 c1
      refine TQ.next ?_
      refine TC.ret ?_
      refine TQ.then_ret ?_
      refine TQ.retE (resL rfl (Res.agg rfl ag43 (by first | exact Cels.all (cs := zmsg) inn | exact Cels.all (cs := msgC pc13 pm13 pf13 (.slice pa13 pl13.length pcap13)) inn) (by first | rfl | assumption | omega) (Res.tmp rfl Res.nil))) ((by first | exact ⟨0, 0, fun _ => 0, none, 0, [], _, rfl, hC, rfl⟩ | exact ⟨_, _, _, _, _, pl13, 0, rfl, hC, rfl⟩)) ?_
      exact (by first | exact Ent.trans Ent.dat0 ett | exact ett)
    · try simp only [decide_eq_true_eq, decide_eq_false_iff_not, Bool.not_eq_true', Bool.not_eq_false', Bool.and_eq_true, Bool.or_eq_true, Nat.not_lt, Nat.not_le, beq_iff_eq, bne_iff_ne] at c1
      refine TC.skip ?_
      refine TQ.next ?_
      refine TC.seq ?_
      refine TC.region ?_
      refine TL.val rfl rfl rfl (Y.loadAgg rfl ag43 rfl (Cels.all (cs := msgC pc13 pm13 pf13 (.slice pa13 pl13.length pcap13)) inn) (by first | rfl | ((try simp only [List.length_map, List.length_set, List.length_replicate]); omega))) ?_
      refine TL.as (.agg (msgC pc13 pm13 pf13 (.slice pa13 pl13.length pcap13))) (by rfl) ?_
      refine TL.eff rfl rfl rfl (X.alloc rfl zc43) ?_
      rintro _ _ ⟨b9, rfl, rfl⟩
      refine TL.eff0 rfl rfl (X.storeAll rfl (by kernel_rfl) (msgC_size _ _ _ _) rfl rfl (msg_one _ _ _ _ _ _) pul rfl) ?_
      rintro _ _ rfl
      refine TL.nil ?_
      refine TQ.next ?_
      refine TC.seq ?_
      refine TC.know (dat_cap (a := pa13) (l := pl13) inn) ?_
      rintro ⟨hc1, hc2, -⟩
      refine TC.region ?_
      refine TL.val rfl rfl rfl (by first | exact Y.fieldAddrJ rfl fo43_3 rfl nqq | exact Y.fieldAddr rfl fo43_3 rfl nqq) ?_
      refine TL.val rfl rfl rfl (Y.load rfl sc41 rfl celD) ?_
      refine TL.as (.slice pa13 pl13.length pcap13) (by rfl) ?_
      refine TL.val rfl rfl rfl (Y.move rfl rfl) ?_
      refine TL.val rfl rfl rfl (Y.bin rfl rfl rfl (br_subN (n := 2) (by omega) (by omega))) ?_
      refine TL.val rfl rfl rfl (Y.sliceHi2 rfl Try.underlying41 sz77 rfl rfl (by omega)) ?_
      refine TL.val rfl rfl rfl (by first | exact Y.fieldAddrJ rfl fo43_3 rfl nqq | exact Y.fieldAddr rfl fo43_3 rfl nqq) ?_
      refine TL.eff0 rfl rfl (X.store rfl (by kernel_rfl) rfl rfl rfl pul (by rw [msgC_size]; omega) rfl) ?_
      rintro _ _ rfl
      rw [show (msgC pc13 pm13 pf13 (.slice pa13 pl13.length pcap13)).setIfInBounds 14 (.slice pa13 (pl13.length - 2) pcap13) = msgC pc13 pm13 pf13 (.slice pa13 (pl13.length - 2) pcap13) from rfl]
      refine TL.nil ?_
      refine TQ.next ?_
      refine TC.seq ?_
      obtain ⟨tk, htk0⟩ : ∃ tk, tk = pl13.take (pl13.length - 2) := ⟨_, rfl⟩
      have htk : pl13.length - 2 = tk.length := by rw [htk0, List.length_take]; omega
      have hSM : SM pc13 pm13 pf13 ⟨pa13, pcap13, tk⟩ = (⟨pc13, pm13, idL pf13, (pl13.map pl).take (pl13.length - 2)⟩ : SMsg) := by rw [htk0]; exact SM_take _ _ _ _ _ _ _
      refine TC.to (Ent.headSl (a := pa13) (l := pl13) (k := pl13.length - 2) pul (by omega)) ?_
      rw [← htk0, htk]
      refine TC.region ?_
      refine TL.val rfl rfl rfl (Y.loadAgg rfl ag43 rfl (Cels.all (cs := msgC pc13 pm13 pf13 (.slice pa13 tk.length pcap13)) inn) (by first | rfl | ((try simp only [List.length_map, List.length_set, List.length_replicate]); omega))) ?_
      refine TL.as (.agg (msgC pc13 pm13 pf13 (.slice pa13 tk.length pcap13))) (by rfl) ?_
      refine TL.val rfl rfl rfl (Y.move rfl rfl) ?_
      refine TL.eff rfl rfl rfl (X.call rfl Try.func26 (by kernel_rfl) rfl rfl (Fn.preE (by repeat first | (with_reducible apply Ent.refl) | (apply Ent.cons; case h => first | (with_reducible (repeat first | apply Pull.here | apply Pull.there); done) | (repeat first | apply Pull.here | apply Pull.there))) (refSign_fn pc13 pm13 pf13 pa13 pcap13 tk _ _ _ key hk hkl (by omega) _))) ?_
      rintro _ _ ⟨a36, c36, rfl, rfl⟩
      rw [hSM]
      obtain ⟨o, ho⟩ : ∃ o, o = (⟨pc13, pm13, idL pf13, (pl13.map pl).take (pl13.length - 2)⟩ : SMsg).sgn key := ⟨_, rfl⟩
      rw [← ho]
      refine TL.val rfl rfl rfl (Y.move rfl rfl) ?_
      refine TL.val rfl rfl rfl (Y.extract rfl rfl rfl) ?_
      refine TL.val rfl rfl rfl (Y.extract rfl rfl rfl) ?_
      refine TL.val rfl rfl rfl (Y.assign rfl rfl) ?_
      refine TL.val rfl rfl rfl (Y.assign rfl rfl) ?_
      refine TL.nil ?_
      refine TQ.next ?_
      refine TC.seq ?_
      refine TC.seq ?_
      refine TC.region ?_
      refine TL.val rfl rfl rfl (Y.move rfl rfl) ?_
      refine TL.val rfl rfl rfl (Y.bin rfl rfl rfl (br_neN (n := 0))) ?_
      refine TL.val rfl rfl rfl (Y.move rfl rfl) ?_
      refine TL.case (fun g10_2 => ?_) (fun g10_2 => ?_)
      · try simp only [decide_eq_true_eq, decide_eq_false_iff_not, Bool.not_eq_true', Bool.not_eq_false', Nat.not_lt, Nat.not_le, beq_iff_eq, bne_iff_ne] at g10_2
        refine TL.not rfl rfl rfl ?_
        refine TL.not rfl rfl rfl ?_
        refine TL.not rfl rfl rfl ?_
        refine TL.not rfl rfl rfl ?_
        refine TL.not rfl rfl rfl ?_
        refine TL.val rfl rfl rfl (Y.pick_t rfl rfl rfl) ?_
        refine TL.nil ?_
        refine TQ.next ?_
        refine TC.cond_t rfl ?_
        refine TC.seq ?_
        refine TC.region ?_
        refine TL.val rfl rfl rfl (Y.buildS rfl rfl pl43 zc43 rfl) ?_
        refine TL.as (.agg zmsg) (by rfl) ?_
        refine TL.eff0 rfl rfl (by first | exact X.storeAll rfl sz43 (by rfl) rfl rfl (allOne (by rfl)) pul (by rfl) | exact X.storeAll rfl sz43 szz rfl rfl (by simp [Value.oneCell']) pul szz | exact X.storeAgg rfl sz43 szz rfl rfl (by simp [Value.oneCell']) pul szz (writeM (by ((try simp only [List.length_set, List.length_map, List.length_append, List.length_replicate]); omega)))) ?_
        rintro _ _ rfl
        refine TL.val rfl rfl rfl (Y.assign rfl rfl) ?_
        refine TL.nil ?_
        have hC : CR b key 0 0 (fun _ => 0) [] 4 := CR.not hP13 c0 (by rw [← ho]; first | exact sgn_ne1 g10_2 | exact sgn_ne2 (fun h => c2 h.symm))
        refine TQ.next ?_
        refine TC.ret ?_
        refine TQ.then_ret ?_
        refine TQ.retE (resL rfl (Res.agg rfl ag43 (by first | exact Cels.all (cs := zmsg) inn | exact Cels.all (cs := msgC pc13 pm13 pf13 (.slice pa13 pl13.length pcap13)) inn) (by first | rfl | assumption | omega) (Res.tmp rfl Res.nil))) ((by first | exact ⟨0, 0, fun _ => 0, none, 0, [], _, rfl, hC, rfl⟩ | exact ⟨_, _, _, _, _, pl13, 0, rfl, hC, rfl⟩)) ?_
        exact (by first | exact Ent.trans Ent.dat0 ett | exact ett)
      · try simp only [decide_eq_true_eq, decide_eq_false_iff_not, Bool.not_eq_true', Bool.not_eq_false', Nat.not_lt, Nat.not_le, beq_iff_eq, bne_iff_ne] at g10_2
        refine TL.valG rfl rfl rfl (Y.move rfl rfl) ?_
        refine TL.valG rfl rfl rfl (by first | exact Y.str rfl Try.underlying30 Try.underlying9 Try.underlying5 rfl Reads.rds inn | exact Y.str rfl Try.underlying30 Try.underlying9 Try.underlying5 rfl Reads.owns inn | exact Y.str rfl Try.underlying30 Try.underlying9 Try.underlying5 rfl (by assumption) inn) ?_
        refine TL.valG rfl rfl rfl (Y.move rfl rfl) ?_
        refine TL.valG rfl rfl rfl (by first | exact Y.str rfl Try.underlying30 Try.underlying9 Try.underlying5 rfl Reads.rds inn | exact Y.str rfl Try.underlying30 Try.underlying9 Try.underlying5 rfl Reads.owns inn | exact Y.str rfl Try.underlying30 Try.underlying9 Try.underlying5 rfl (by assumption) inn) ?_
        refine TL.valG rfl rfl rfl (Y.neStr rfl rfl rfl) ?_
        refine TL.val rfl rfl rfl (Y.pick_f rfl rfl rfl) ?_
        refine TL.nil ?_
        refine TQ.next ?_
        refine TC.cond rfl (fun c2 => ?_) (fun c2 => ?_)
        · try simp only [decide_eq_true_eq, decide_eq_false_iff_not, Bool.not_eq_true', Bool.not_eq_false', Bool.and_eq_true, Bool.or_eq_true, Nat.not_lt, Nat.not_le, beq_iff_eq, bne_iff_ne] at c2
          refine TC.seq ?_
          refine TC.region ?_
          refine TL.val rfl rfl rfl (Y.buildS rfl rfl pl43 zc43 rfl) ?_
          refine TL.as (.agg zmsg) (by rfl) ?_
          refine TL.eff0 rfl rfl (by first | exact X.storeAll rfl sz43 (by rfl) rfl rfl (allOne (by rfl)) pul (by rfl) | exact X.storeAll rfl sz43 szz rfl rfl (by simp [Value.oneCell']) pul szz | exact X.storeAgg rfl sz43 szz rfl rfl (by simp [Value.oneCell']) pul szz (writeM (by ((try simp only [List.length_set, List.length_map, List.length_append, List.length_replicate]); omega)))) ?_
          rintro _ _ rfl
          refine TL.val rfl rfl rfl (Y.assign rfl rfl) ?_
          refine TL.nil ?_
          have hC : CR b key 0 0 (fun _ => 0) [] 4 := CR.not hP13 c0 (by rw [← ho]; first | exact sgn_ne1 g10_2 | exact sgn_ne2 (fun h => c2 h.symm))
          refine TQ.next ?_
          refine TC.ret ?_
          refine TQ.then_ret ?_
          refine TQ.retE (resL rfl (Res.agg rfl ag43 (by first | exact Cels.all (cs := zmsg) inn | exact Cels.all (cs := msgC pc13 pm13 pf13 (.slice pa13 pl13.length pcap13)) inn) (by first | rfl | assumption | omega) (Res.tmp rfl Res.nil))) ((by first | exact ⟨0, 0, fun _ => 0, none, 0, [], _, rfl, hC, rfl⟩ | exact ⟨_, _, _, _, _, pl13, 0, rfl, hC, rfl⟩)) ?_
          exact (by first | exact Ent.trans Ent.dat0 ett | exact ett)
        · try simp only [decide_eq_true_eq, decide_eq_false_iff_not, Bool.not_eq_true', Bool.not_eq_false', Bool.and_eq_true, Bool.or_eq_true, Nat.not_lt, Nat.not_le, beq_iff_eq, bne_iff_ne] at c2
          refine TC.skip ?_
          refine TQ.next ?_
          refine TC.seq ?_
          have hC : CR b key pc13 pm13 pf13 (pl13.map pl) 0 := CR.yes hP13 c0 (by omega) (by rw [← ho]; exact sgn_eq2 g10_2 c2.symm)
          refine TC.region ?_
          refine TL.val rfl rfl rfl (Y.loadAgg rfl ag43 rfl (Cels.all (cs := msgC pc13 pm13 pf13 (.slice pa13 pl13.length pcap13)) inn) (by first | rfl | ((try simp only [List.length_map, List.length_set, List.length_replicate]); omega))) ?_
          refine TL.as (.agg (msgC pc13 pm13 pf13 (.slice pa13 pl13.length pcap13))) (by rfl) ?_
          refine TL.eff0 rfl rfl (X.storeAll rfl (by kernel_rfl) (msgC_size _ _ _ _) rfl rfl (msg_one _ _ _ _ _ _) pul rfl) ?_
          rintro _ _ rfl
          refine TL.val rfl rfl rfl (Y.assign rfl rfl) ?_
          refine TL.nil ?_
          refine TQ.next ?_
          refine TC.ret ?_
          refine TQ.retE (resL rfl (Res.agg rfl ag43 (by first | exact Cels.all (cs := zmsg) inn | exact Cels.all (cs := msgC pc13 pm13 pf13 (.slice pa13 pl13.length pcap13)) inn) (by first | rfl | assumption | omega) (Res.tmp rfl Res.nil))) ((by first | exact ⟨0, 0, fun _ => 0, none, 0, [], _, rfl, hC, rfl⟩ | exact ⟨_, _, _, _, _, pl13, 0, rfl, hC, rfl⟩)) ?_
          exact (by first | exact Ent.trans Ent.dat0 ett | exact ett)
end stun
end Go.Proofs.Ytpmplnkempcmjaa
