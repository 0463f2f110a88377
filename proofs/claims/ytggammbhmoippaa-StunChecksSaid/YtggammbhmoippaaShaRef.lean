/- The document's SHA-1. -/
import Derived.Test.YtggammbhmoippaaShaSum
import Derived.Test.YtggammbhmoippaaHAuto
namespace Go.Proofs.Ytggammbhmoippaa
set_option linter.unusedVariables false
set_option linter.unusedSimpArgs false
open Go.RowKit
namespace sha
namespace FxShaRef
set_option maxRecDepth 100000
theorem ag101 : Program.aggN Try.prog 101 = some 5 := by kernel_rfl
theorem ag83 : Program.aggN Try.prog 83 = some 20 := by kernel_rfl
theorem ar101 : Program.arrI Try.prog 101 = some (5, 1) := by kernel_rfl
theorem ar102 : Program.arrI Try.prog 102 = some (80, 1) := by kernel_rfl
theorem ar83 : Program.arrI Try.prog 83 = some (20, 1) := by kernel_rfl
theorem el27 : Elt Try.prog 27 5 1 1 (.int .u8 0) := ⟨Try.underlying27, by kernel_rfl, rfl, by decide, by simp [Value.cells, Value.oneCell']⟩
theorem sc45 : Program.isSc Try.prog 45 = true := by kernel_rfl
theorem sc5 : Program.isSc Try.prog 5 = true := by kernel_rfl
theorem sl27 : Program.slI Try.prog 27 = some 1 := by kernel_rfl
theorem sz101 : (Try.prog.info? 101).map (·.size) = some 5 := by kernel_rfl
theorem sz45 : (Try.prog.info? 45).map (·.size) = some 1 := by kernel_rfl
theorem sz5 : (Try.prog.info? 5).map (·.size) = some 1 := by kernel_rfl
theorem sz83 : (Try.prog.info? 83).map (·.size) = some 20 := by kernel_rfl
theorem zc101 : Program.zeroC Try.prog 101 = some ((List.replicate 5 (0 : UInt32)).map v32).toArray := by kernel_rfl
theorem zc102 : Program.zeroC Try.prog 102 = some ((List.replicate 80 (0 : UInt32)).map v32).toArray := by kernel_rfl
theorem zc83 : Program.zeroC Try.prog 83 = some ((List.replicate 20 (0 : UInt8)).map v8).toArray := by kernel_rfl
end FxShaRef
open FxShaRef
theorem bits32 {x y : UInt32} (h : ∀ i, x.toBitVec.getLsbD i = y.toBitVec.getLsbD i) : x = y := UInt32.toBitVec_inj.1 (BitVec.eq_of_getLsbD_eq fun i _ => h i)
theorem ch_eq (b c d : UInt32) : (b &&& c) ||| (~~~b &&& d) = d ^^^ (b &&& (c ^^^ d)) := by
  apply bits32; intro i
  simp only [UInt32.toBitVec_or, UInt32.toBitVec_and, UInt32.toBitVec_xor, UInt32.toBitVec_not, BitVec.getLsbD_or, BitVec.getLsbD_and, BitVec.getLsbD_xor, BitVec.getLsbD_not]
  by_cases hi : i < 32
  · simp only [hi, decide_true, Bool.true_and]
    cases b.toBitVec.getLsbD i <;> cases c.toBitVec.getLsbD i <;> cases d.toBitVec.getLsbD i <;> rfl
  · have : d.toBitVec.getLsbD i = false := BitVec.getLsbD_of_ge _ _ (by omega)
    have : b.toBitVec.getLsbD i = false := BitVec.getLsbD_of_ge _ _ (by omega)
    simp_all
theorem maj_eq (b c d : UInt32) : (b &&& c) ||| (b &&& d) ||| (c &&& d) = (b &&& c) ||| (d &&& (b ||| c)) := by
  apply bits32; intro i
  simp only [UInt32.toBitVec_or, UInt32.toBitVec_and, UInt32.toBitVec_xor, UInt32.toBitVec_not, BitVec.getLsbD_or, BitVec.getLsbD_and, BitVec.getLsbD_xor, BitVec.getLsbD_not]
  cases b.toBitVec.getLsbD i <;> cases c.toBitVec.getLsbD i <;> cases d.toBitVec.getLsbD i <;> rfl
theorem ffR_0 {k : Nat} {b c d : UInt32} (h : k < 20) : ff (k / 20) b c d = (b &&& c) ||| (~~~b &&& d) := by rw [ch_eq, ff_0 (by omega)]
theorem ffR_1 {k : Nat} {b c d : UInt32} (h : 20 ≤ k) (h2 : k < 40) : ff (k / 20) b c d = b ^^^ c ^^^ d := ff_1 (by omega)
theorem ffR_2 {k : Nat} {b c d : UInt32} (h : 40 ≤ k) (h2 : k < 60) : ff (k / 20) b c d = (b &&& c) ||| (b &&& d) ||| (c &&& d) := by rw [maj_eq, ff_2 (by omega)]
theorem ffR_3 {k : Nat} {b c d : UInt32} (h : 60 ≤ k) : ff (k / 20) b c d = b ^^^ c ^^^ d := ff_3 (by omega) (by omega) (by omega)
theorem kkR_0 {k : Nat} (h : k < 20) : kk (k / 20) = 1518500249 := kk_0 (by omega)
theorem kkR_1 {k : Nat} (h : 20 ≤ k) (h2 : k < 40) : kk (k / 20) = 1859775393 := kk_1 (by omega)
theorem kkR_2 {k : Nat} (h : 40 ≤ k) (h2 : k < 60) : kk (k / 20) = 2400959708 := kk_2 (by omega)
theorem kkR_3 {k : Nat} (h : 60 ≤ k) : kk (k / 20) = 3395469782 := kk_3 (by omega) (by omega) (by omega)
theorem wordR (m : List UInt8) (o k : Nat) : shl32 (m.getD (o + 4 * k) 0).toUInt32 24 ||| shl32 (m.getD (o + 4 * k + 1) 0).toUInt32 16 ||| shl32 (m.getD (o + 4 * k + 2) 0).toUInt32 8 ||| (m.getD (o + 4 * k + 3) 0).toUInt32 = word (m.drop o) k := by
  simp only [word, getD_drop', Nat.add_assoc]
def rr (T : List UInt8) (j : Nat) : List UInt8 := T ++ ([128] ++ List.replicate j 0)
def rq (T : List UInt8) (i : Nat) : List UInt8 := T ++ ([128] ++ (List.replicate (zeros T.length) 0 ++ lenB (bitsN T) i))
theorem rr_0 (T : List UInt8) : ([] : List Value) ++ List.map v8 T ++ [Value.int .u8 128] = List.map v8 (rr T 0) := by simp [rr]
theorem rr_s (T : List UInt8) (j : Nat) : List.map v8 (rr T j) ++ [Value.int .u8 0] = List.map v8 (rr T (j + 1)) := by simp [rr, List.replicate_succ']
theorem rq_0 (T : List UInt8) : rr T (zeros T.length) = rq T 0 := by simp [rr, rq, lenB]
theorem rq_s (T : List UInt8) (j : Nat) : List.map v8 (rq T j) ++ [v8 (shr64 (bitsN T) (56 - 8 * j)).toUInt8] = List.map v8 (rq T (j + 1)) := by simp [rq, lenB_succ]
theorem list_len (s : S5) : s.list.length = 5 := rfl
theorem s5_list {H : List UInt32} (h : H.length = 5) : (s5 H).list = H := by
  match H, h with
  | [a, b, c, d, e], _ => rfl
set_option maxHeartbeats 4000000 in
theorem refSum_fn (A : SA) (a : Option Addr) (n cap : Nat) (bs : List UInt8) (hA : Reads A 1 (.slice a n cap) n (bs.map v8)) (hn : bs.length = n) (hlen : n ≤ 140737488355200) (L : List SA) :
    Fn Try.prog 57 [.slice a n cap] (A :: L) (fun v L' => v = .agg ((sha bs).map v8).toArray ∧ L' = A :: L) := by
  subst hn
  refine Fn.of (N := 232) Try.func57 rfl rfl ?_
  intro Xh
  refine TC.seq ?_
  refine TC.region ?_
  refine TL.eff rfl rfl rfl (X.alloc rfl zc83) ?_
  rintro _ _ ⟨b2, rfl, rfl⟩
  refine TL.nil ?_
  refine TQ.next ?_
  refine TC.seq ?_
  refine TC.region ?_
  refine TL.val rfl rfl rfl (Y.buildM rfl rfl Try.underlying101 sz45 zc101 rfl rfl rfl (by first | exact (by simp only [List.all_cons, List.all_nil, Value.oneCell', Bool.and_self]) | rfl)) ?_
  refine TL.eff rfl rfl rfl (X.alloc rfl zc101) ?_
  rintro _ _ ⟨b3, rfl, rfl⟩
  refine TL.eff0 rfl rfl (by first | exact X.storeAll rfl sz101 szz rfl rfl (by simp [Value.oneCell']) pul szz | exact X.storeAgg rfl sz101 szz rfl rfl (by simp [Value.oneCell']) pul szz (writeM (by ((try simp only [List.length_set, List.length_map, List.length_append, List.length_replicate]); omega)))) ?_
  rintro _ _ rfl
  refine TL.nil ?_
  refine TQ.next ?_
  refine TC.seq ?_
  refine TC.region ?_
  refine TL.eff rfl rfl rfl (X.lit rfl el27 rfl rfl rfl (by decide) rfl) ?_
  rintro _ _ ⟨g22, rfl, rfl⟩
  refine TL.val rfl rfl rfl (Y.move rfl rfl) ?_
  refine TL.eff rfl rfl rfl (X.appendS rfl el27 rfl pul rfl (by first | exact Src.owns Try.underlying27 inn | exact Src.rds Try.underlying27 inn | exact Src.reads (by assumption) Try.underlying27 inn) (by simp only [maxLen]; omega) (by omega)) ?_
  rintro _ _ ⟨a24, c24, rfl, rfl⟩
  refine TL.eff rfl rfl rfl (X.lit rfl el27 rfl rfl rfl (by decide) rfl) ?_
  rintro _ _ ⟨g25, rfl, rfl⟩
  refine TL.eff rfl rfl rfl (X.appendS rfl el27 rfl pul rfl (by first | exact Src.owns Try.underlying27 inn | exact Src.rds Try.underlying27 inn | exact Src.reads (by assumption) Try.underlying27 inn) (by simp only [maxLen]; omega) (by omega)) ?_
  rintro _ _ ⟨a26, c26, rfl, rfl⟩
  refine TL.val rfl rfl rfl (Y.assign rfl rfl) ?_
  refine TL.nil ?_
  refine TQ.next ?_
  refine TC.seq ?_
  refine TC.block ?_
  have ez : zeros bs.length = (119 - bs.length % 64) % 64 := rfl
  rw [rr_0, Nat.zero_add]
  refine TC.loopF (ι := Nat × Option Addr × Nat) [] (fun i => i.1 ≤ zeros bs.length) (fun i => [(4, some (.slice i.2.1 (bs.length + 1 + i.1) i.2.2))]) (fun i => [SA.owns 5 1 (.slice i.2.1 (bs.length + 1 + i.1) i.2.2) (bs.length + 1 + i.1) ((rr bs i.1).map v8)]) (fun i => zeros bs.length - i.1) ((0, _, _)) (Nat.zero_le _) ⟨rfl, trivial⟩ (Pulls.cons pul Pulls.nil) ?_
  rintro ⟨j, a4, cap4⟩ hj F' L' rfl hL'
  simp only [List.cons_append, List.nil_append] at hL'
  subst hL'
  dsimp only at hj ⊢
  refine TC.seq ?_
  refine TC.seq ?_
  refine TC.region ?_
  refine TL.val rfl rfl rfl (Y.move rfl rfl) ?_
  refine TL.val rfl rfl rfl (Y.len rfl Try.underlying27 rfl) ?_
  refine TL.val rfl rfl rfl (Y.bin rfl rfl rfl (br_remN (n := 64) (by omega))) ?_
  refine TL.val rfl rfl rfl (Y.bin rfl rfl rfl (br_neN (n := 56))) ?_
  refine TL.nil ?_
  refine TQ.next ?_
  refine TC.cond rfl (fun c0 => ?_) (fun c0 => ?_)
  · try simp only [decide_eq_true_eq, decide_eq_false_iff_not, Bool.not_eq_true', Bool.not_eq_false', Bool.and_eq_true, Bool.or_eq_true, Nat.not_lt, Nat.not_le, beq_iff_eq, bne_iff_ne] at c0
    have hj2 : j < zeros bs.length := by omega
    refine TC.skip ?_
    refine TQ.next ?_
    refine TC.block ?_
    refine TC.region ?_
    refine TL.val rfl rfl rfl (Y.move rfl rfl) ?_
    refine TL.eff rfl rfl rfl (X.lit rfl el27 rfl rfl rfl (by decide) rfl) ?_
    rintro _ _ ⟨g32, rfl, rfl⟩
    refine TL.eff rfl rfl rfl (X.appendS rfl el27 rfl pul rfl (by first | exact Src.owns Try.underlying27 inn | exact Src.rds Try.underlying27 inn | exact Src.reads (by assumption) Try.underlying27 inn) (by simp only [maxLen]; omega) (by omega)) ?_
    rintro _ _ ⟨a33, c33, rfl, rfl⟩
    refine TL.val rfl rfl rfl (Y.assign rfl rfl) ?_
    refine TL.nil ?_
    refine TQ.block_normal ?_
    rw [rr_s]
    refine TQ.loopF ((j + 1, _, _)) (by show j + 1 ≤ zeros bs.length; omega) (by show zeros bs.length - (j + 1) < zeros bs.length - j; omega) ⟨rfl, trivial⟩ (by (repeat first | apply Grow.refl | apply Grow.step | apply Grow.app)) ?_ ?_ ?_
    · kernel_rfl
    · rfl
    · simp only [List.cons_append, List.nil_append]
      exact ett
  · try simp only [decide_eq_true_eq, decide_eq_false_iff_not, Bool.not_eq_true', Bool.not_eq_false', Bool.and_eq_true, Bool.or_eq_true, Nat.not_lt, Nat.not_le, beq_iff_eq, bne_iff_ne] at c0
    refine TC.exit ?_
    refine TQ.then_exit ?_
    refine TQ.then_exit ?_
    refine TQ.block_exit ?_
    refine TQ.next ?_
    refine TC.seq ?_
    obtain rfl : j = zeros bs.length := by omega
    rw [rq_0]
    refine TC.region ?_
    refine TL.val rfl rfl rfl (Y.move rfl rfl) ?_
    refine TL.val rfl rfl rfl (Y.len rfl Try.underlying27 rfl) ?_
    refine TL.val rfl rfl rfl (Y.conv rfl Try.underlying3 Try.underlying81 rfl (cv_N_64)) ?_
    refine TL.val rfl rfl rfl (Y.bin rfl rfl rfl (br_mul64 (y := 8))) ?_
    refine TL.val rfl rfl rfl (Y.assign rfl rfl) ?_
    refine TL.nil ?_
    refine TQ.next ?_
    refine TC.seq ?_
    refine TC.seq ?_
    refine TC.region ?_
    refine TL.val rfl rfl rfl (Y.move rfl rfl) ?_
    refine TL.nil ?_
    refine TQ.next ?_
    refine TC.block ?_
    refine TC.loopF (ι := Nat × Option Addr × Nat) [] (fun i => i.1 ≤ 8) (fun i => [(38, some (vN i.1)), (4, some (.slice i.2.1 (bs.length + 1 + zeros bs.length + i.1) i.2.2))]) (fun i => [SA.owns 5 1 (.slice i.2.1 (bs.length + 1 + zeros bs.length + i.1) i.2.2) (bs.length + 1 + zeros bs.length + i.1) ((rq bs i.1).map v8)]) (fun i => 8 - i.1) ((0, _, _)) (by omega) ⟨rfl, rfl, trivial⟩ (Pulls.cons pul Pulls.nil) ?_
    rintro ⟨j, a6, cap6⟩ hj6 F' L' rfl hL'
    simp only [List.cons_append, List.nil_append] at hL'
    subst hL'
    dsimp only at hj6 ⊢
    refine TC.seq ?_
    refine TC.region ?_
    refine TL.val rfl rfl rfl (Y.bin rfl rfl rfl (br_ltN (n := 8))) ?_
    refine TL.nil ?_
    refine TQ.next ?_
    refine TC.seq ?_
    refine TC.cond rfl (fun c1 => ?_) (fun c1 => ?_)
    · try simp only [decide_eq_true_eq, decide_eq_false_iff_not, Bool.not_eq_true', Bool.not_eq_false', Bool.and_eq_true, Bool.or_eq_true, Nat.not_lt, Nat.not_le, beq_iff_eq, bne_iff_ne] at c1
      refine TC.skip ?_
      refine TQ.next ?_
      refine TC.seq ?_
      refine TC.block ?_
      refine TC.seq ?_
      refine TC.region ?_
      refine TL.val rfl rfl rfl (Y.move rfl rfl) ?_
      refine TL.val rfl rfl rfl (Y.assign rfl rfl) ?_
      refine TL.nil ?_
      refine TQ.next ?_
      refine TC.region ?_
      refine TL.val rfl rfl rfl (Y.move rfl rfl) ?_
      refine TL.val rfl rfl rfl (Y.move rfl rfl) ?_
      refine TL.val rfl rfl rfl (Y.move rfl rfl) ?_
      refine TL.val rfl rfl rfl (Y.bin rfl rfl rfl (br_mulN (m := 8) (by omega))) ?_
      refine TL.val rfl rfl rfl (Y.bin rfl rfl rfl (br_subN (m := 56) (by omega) (by omega))) ?_
      refine TL.val rfl rfl rfl (Y.conv rfl Try.underlying3 Try.underlying61 rfl (cv_N_64n (by omega))) ?_
      refine TL.val rfl rfl rfl (Y.bin rfl rfl rfl (br_shr64)) ?_
      refine TL.val rfl rfl rfl (Y.conv rfl Try.underlying81 Try.underlying5 rfl (cv_64_8)) ?_
      refine TL.eff rfl rfl rfl (X.lit rfl el27 rfl rfl rfl (by decide) rfl) ?_
      rintro _ _ ⟨g49, rfl, rfl⟩
      refine TL.eff rfl rfl rfl (X.appendS rfl el27 rfl pul rfl (by first | exact Src.owns Try.underlying27 inn | exact Src.rds Try.underlying27 inn | exact Src.reads (by assumption) Try.underlying27 inn) (by simp only [maxLen]; omega) (by omega)) ?_
      rintro _ _ ⟨a50, c50, rfl, rfl⟩
      refine TL.val rfl rfl rfl (Y.assign rfl rfl) ?_
      refine TL.nil ?_
      refine TQ.block_normal ?_
      refine TQ.next ?_
      refine TC.region ?_
      refine TL.val rfl rfl rfl (Y.bin rfl rfl rfl (br_addN (n := 1) (by omega))) ?_
      refine TL.val rfl rfl rfl (Y.move rfl rfl) ?_
      refine TL.nil ?_
      rw [show UInt64.ofNat bs.length * 8 = bitsN bs from rfl, rq_s]
      refine TQ.loopF ((j + 1, _, _)) (by show j + 1 ≤ 8; omega) (by show 8 - (j + 1) < 8 - j; omega) ⟨rfl, rfl, trivial⟩ (by (repeat first | apply Grow.refl | apply Grow.step | apply Grow.app)) ?_ ?_ ?_
      · kernel_rfl
      · rfl
      · simp only [List.cons_append, List.nil_append]
        exact ett
    · try simp only [decide_eq_true_eq, decide_eq_false_iff_not, Bool.not_eq_true', Bool.not_eq_false', Bool.and_eq_true, Bool.or_eq_true, Nat.not_lt, Nat.not_le, beq_iff_eq, bne_iff_ne] at c1
      refine TC.exit ?_
      refine TQ.then_exit ?_
      refine TQ.then_exit ?_
      refine TQ.block_exit ?_
      refine TQ.next ?_
      refine TC.seq ?_
      refine TC.seq ?_
      obtain rfl : j = 8 := by omega
      have hMl := padded_len bs
      have hMm := padded_mod bs
      rw [show rq bs 8 = padded bs from rfl, show bs.length + 1 + zeros bs.length + 8 = (padded bs).length by omega]
      generalize hM : padded bs = M at hMl hMm ⊢
      refine TC.region ?_
      refine TL.val rfl rfl rfl (Y.assign rfl rfl) ?_
      refine TL.nil ?_
      refine TQ.next ?_
      refine TC.block ?_
      refine TC.loopF (ι := Nat) [] (fun q => 64 * q ≤ M.length) (fun q => [(7, some (vN (64 * q)))]) (fun q => [SA.blk b3 ((runB H0 M q).map v32).toArray 101]) (fun q => M.length - 64 * q) (0) (by omega) ⟨rfl, trivial⟩ (Pulls.cons pul Pulls.nil) ?_
      rintro q hq F' L' rfl hL'
      simp only [List.cons_append, List.nil_append] at hL'
      subst hL'
      have hrl : (runB H0 M q).length = 5 := runB_len H0 M q
      refine TC.know (owns_cap (cap := cap6) inn) ?_
      rintro ⟨hc6, hm6, -⟩
      simp only [maxLen] at hm6
      refine TC.seq ?_
      refine TC.seq ?_
      refine TC.region ?_
      refine TL.val rfl rfl rfl (Y.move rfl rfl) ?_
      refine TL.val rfl rfl rfl (Y.move rfl rfl) ?_
      refine TL.val rfl rfl rfl (Y.len rfl Try.underlying27 rfl) ?_
      refine TL.val rfl rfl rfl (Y.bin rfl rfl rfl (br_ltN)) ?_
      refine TL.nil ?_
      refine TQ.next ?_
      refine TC.cond rfl (fun c2 => ?_) (fun c2 => ?_)
      · try simp only [decide_eq_true_eq, decide_eq_false_iff_not, Bool.not_eq_true', Bool.not_eq_false', Bool.and_eq_true, Bool.or_eq_true, Nat.not_lt, Nat.not_le, beq_iff_eq, bne_iff_ne] at c2
        refine TC.know (owns_some (cap := cap6) inn (by omega)) ?_
        rintro ⟨g6, off6, rfl⟩
        refine TC.skip ?_
        refine TQ.next ?_
        refine TC.seq ?_
        refine TC.block ?_
        refine TC.seq ?_
        refine TC.region ?_
        refine TL.eff rfl rfl rfl (X.alloc rfl zc102) ?_
        rintro _ _ ⟨b8, rfl, rfl⟩
        refine TL.nil ?_
        refine TQ.next ?_
        refine TC.seq ?_
        refine TC.seq ?_
        refine TC.region ?_
        refine TL.val rfl rfl rfl (Y.move rfl rfl) ?_
        refine TL.nil ?_
        refine TQ.next ?_
        refine TC.block ?_
        refine TC.loopF (ι := Nat) [] (fun k => k ≤ 16) (fun k => [(58, some (vN k))]) (fun k => [SA.blk b8 ((fill1 (M.drop (64 * q)) k).map v32).toArray 102]) (fun k => 16 - k) (0) (by omega) ⟨rfl, trivial⟩ (Pulls.cons pul Pulls.nil) ?_
        rintro k hk F' L' rfl hL'
        simp only [List.cons_append, List.nil_append] at hL'
        subst hL'
        have hw := fill1_len (M.drop (64 * q)) k
        refine TC.seq ?_
        refine TC.region ?_
        refine TL.val rfl rfl rfl (Y.bin rfl rfl rfl (br_ltN (n := 16))) ?_
        refine TL.nil ?_
        refine TQ.next ?_
        refine TC.seq ?_
        refine TC.cond rfl (fun c3 => ?_) (fun c3 => ?_)
        · try simp only [decide_eq_true_eq, decide_eq_false_iff_not, Bool.not_eq_true', Bool.not_eq_false', Bool.and_eq_true, Bool.or_eq_true, Nat.not_lt, Nat.not_le, beq_iff_eq, bne_iff_ne] at c3
          refine TC.skip ?_
          refine TQ.next ?_
          refine TC.seq ?_
          refine TC.block ?_
          refine TC.seq ?_
          refine TC.region ?_
          refine TL.val rfl rfl rfl (Y.move rfl rfl) ?_
          refine TL.val rfl rfl rfl (Y.assign rfl rfl) ?_
          refine TL.nil ?_
          refine TQ.next ?_
          refine TC.draws 43 _ (by kernel_rfl) (by kernel_rfl) (fun _ h => h) ?_
          refine TA.take 0 rfl rfl rfl rfl (by kernel_rfl) (by kernel_rfl) (by kernel_rfl) rfl (by kernel_rfl) (by kernel_rfl) (fun _ _ _ h => h) (Y.move rfl rfl) ?_
          refine TA.take 1 rfl rfl rfl rfl (by kernel_rfl) (by kernel_rfl) (by kernel_rfl) rfl (by kernel_rfl) (by kernel_rfl) (fun _ _ _ h => h) (Y.move rfl rfl) ?_
          refine TA.take 2 rfl rfl rfl rfl (by kernel_rfl) (by kernel_rfl) (by kernel_rfl) rfl (by kernel_rfl) (by kernel_rfl) (fun _ _ _ h => h) (Y.move rfl rfl) ?_
          refine TA.take 3 rfl rfl rfl rfl (by kernel_rfl) (by kernel_rfl) (by kernel_rfl) rfl (by kernel_rfl) (by kernel_rfl) (fun _ _ _ h => h) (Y.move rfl rfl) ?_
          refine TA.take 4 rfl rfl rfl rfl (by kernel_rfl) (by kernel_rfl) (by kernel_rfl) rfl (by kernel_rfl) (by kernel_rfl) (fun _ _ _ h => h) (Y.bin rfl rfl rfl (br_mulN (m := 4) (by omega))) ?_
          refine TA.take 5 rfl rfl rfl rfl (by kernel_rfl) (by kernel_rfl) (by kernel_rfl) rfl (by kernel_rfl) (by kernel_rfl) (fun _ _ _ h => h) (Y.bin rfl rfl rfl (br_addN (by omega))) ?_
          refine TA.take 6 rfl rfl rfl rfl (by kernel_rfl) (by kernel_rfl) (by kernel_rfl) rfl (by kernel_rfl) (by kernel_rfl) (fun _ _ _ h => h) (by first | exact Y.indexSlB rfl sl27 rfl rfl (by omega) nqq | exact Y.indexSl rfl sl27 rfl rfl (by omega) nqq) ?_
          refine TA.take 7 rfl rfl rfl rfl (by kernel_rfl) (by kernel_rfl) (by kernel_rfl) rfl (by kernel_rfl) (by kernel_rfl) (fun _ _ _ h => h) (Y.load rfl sc5 rfl ceo8) ?_
          refine TA.take 8 rfl rfl rfl rfl (by kernel_rfl) (by kernel_rfl) (by kernel_rfl) rfl (by kernel_rfl) (by kernel_rfl) (fun _ _ _ h => h) (Y.conv rfl Try.underlying5 Try.underlying45 rfl (cv_8_32)) ?_
          refine TA.take 9 rfl rfl rfl rfl (by kernel_rfl) (by kernel_rfl) (by kernel_rfl) rfl (by kernel_rfl) (by kernel_rfl) (fun _ _ _ h => h) (Y.bin rfl rfl rfl (br_shl32 (n := 24))) ?_
          refine TA.take 10 rfl rfl rfl rfl (by kernel_rfl) (by kernel_rfl) (by kernel_rfl) rfl (by kernel_rfl) (by kernel_rfl) (fun _ _ _ h => h) (Y.move rfl rfl) ?_
          refine TA.take 11 rfl rfl rfl rfl (by kernel_rfl) (by kernel_rfl) (by kernel_rfl) rfl (by kernel_rfl) (by kernel_rfl) (fun _ _ _ h => h) (Y.move rfl rfl) ?_
          refine TA.take 12 rfl rfl rfl rfl (by kernel_rfl) (by kernel_rfl) (by kernel_rfl) rfl (by kernel_rfl) (by kernel_rfl) (fun _ _ _ h => h) (Y.move rfl rfl) ?_
          refine TA.take 13 rfl rfl rfl rfl (by kernel_rfl) (by kernel_rfl) (by kernel_rfl) rfl (by kernel_rfl) (by kernel_rfl) (fun _ _ _ h => h) (Y.bin rfl rfl rfl (br_mulN (m := 4) (by omega))) ?_
          refine TA.take 14 rfl rfl rfl rfl (by kernel_rfl) (by kernel_rfl) (by kernel_rfl) rfl (by kernel_rfl) (by kernel_rfl) (fun _ _ _ h => h) (Y.bin rfl rfl rfl (br_addN (by omega))) ?_
          refine TA.take 15 rfl rfl rfl rfl (by kernel_rfl) (by kernel_rfl) (by kernel_rfl) rfl (by kernel_rfl) (by kernel_rfl) (fun _ _ _ h => h) (Y.bin rfl rfl rfl (br_addN (n := 1) (by omega))) ?_
          refine TA.take 16 rfl rfl rfl rfl (by kernel_rfl) (by kernel_rfl) (by kernel_rfl) rfl (by kernel_rfl) (by kernel_rfl) (fun _ _ _ h => h) (by first | exact Y.indexSlB rfl sl27 rfl rfl (by omega) nqq | exact Y.indexSl rfl sl27 rfl rfl (by omega) nqq) ?_
          refine TA.take 17 rfl rfl rfl rfl (by kernel_rfl) (by kernel_rfl) (by kernel_rfl) rfl (by kernel_rfl) (by kernel_rfl) (fun _ _ _ h => h) (Y.load rfl sc5 rfl ceo8) ?_
          refine TA.take 18 rfl rfl rfl rfl (by kernel_rfl) (by kernel_rfl) (by kernel_rfl) rfl (by kernel_rfl) (by kernel_rfl) (fun _ _ _ h => h) (Y.conv rfl Try.underlying5 Try.underlying45 rfl (cv_8_32)) ?_
          refine TA.take 19 rfl rfl rfl rfl (by kernel_rfl) (by kernel_rfl) (by kernel_rfl) rfl (by kernel_rfl) (by kernel_rfl) (fun _ _ _ h => h) (Y.bin rfl rfl rfl (br_shl32 (n := 16))) ?_
          refine TA.take 20 rfl rfl rfl rfl (by kernel_rfl) (by kernel_rfl) (by kernel_rfl) rfl (by kernel_rfl) (by kernel_rfl) (fun _ _ _ h => h) (Y.bin rfl rfl rfl (br_or32)) ?_
          refine TA.take 21 rfl rfl rfl rfl (by kernel_rfl) (by kernel_rfl) (by kernel_rfl) rfl (by kernel_rfl) (by kernel_rfl) (fun _ _ _ h => h) (Y.move rfl rfl) ?_
          refine TA.take 22 rfl rfl rfl rfl (by kernel_rfl) (by kernel_rfl) (by kernel_rfl) rfl (by kernel_rfl) (by kernel_rfl) (fun _ _ _ h => h) (Y.move rfl rfl) ?_
          refine TA.take 23 rfl rfl rfl rfl (by kernel_rfl) (by kernel_rfl) (by kernel_rfl) rfl (by kernel_rfl) (by kernel_rfl) (fun _ _ _ h => h) (Y.move rfl rfl) ?_
          refine TA.take 24 rfl rfl rfl rfl (by kernel_rfl) (by kernel_rfl) (by kernel_rfl) rfl (by kernel_rfl) (by kernel_rfl) (fun _ _ _ h => h) (Y.bin rfl rfl rfl (br_mulN (m := 4) (by omega))) ?_
          refine TA.take 25 rfl rfl rfl rfl (by kernel_rfl) (by kernel_rfl) (by kernel_rfl) rfl (by kernel_rfl) (by kernel_rfl) (fun _ _ _ h => h) (Y.bin rfl rfl rfl (br_addN (by omega))) ?_
          refine TA.take 26 rfl rfl rfl rfl (by kernel_rfl) (by kernel_rfl) (by kernel_rfl) rfl (by kernel_rfl) (by kernel_rfl) (fun _ _ _ h => h) (Y.bin rfl rfl rfl (br_addN (n := 2) (by omega))) ?_
          refine TA.take 27 rfl rfl rfl rfl (by kernel_rfl) (by kernel_rfl) (by kernel_rfl) rfl (by kernel_rfl) (by kernel_rfl) (fun _ _ _ h => h) (by first | exact Y.indexSlB rfl sl27 rfl rfl (by omega) nqq | exact Y.indexSl rfl sl27 rfl rfl (by omega) nqq) ?_
          refine TA.take 28 rfl rfl rfl rfl (by kernel_rfl) (by kernel_rfl) (by kernel_rfl) rfl (by kernel_rfl) (by kernel_rfl) (fun _ _ _ h => h) (Y.load rfl sc5 rfl ceo8) ?_
          refine TA.take 29 rfl rfl rfl rfl (by kernel_rfl) (by kernel_rfl) (by kernel_rfl) rfl (by kernel_rfl) (by kernel_rfl) (fun _ _ _ h => h) (Y.conv rfl Try.underlying5 Try.underlying45 rfl (cv_8_32)) ?_
          refine TA.take 30 rfl rfl rfl rfl (by kernel_rfl) (by kernel_rfl) (by kernel_rfl) rfl (by kernel_rfl) (by kernel_rfl) (fun _ _ _ h => h) (Y.bin rfl rfl rfl (br_shl32 (n := 8))) ?_
          refine TA.take 31 rfl rfl rfl rfl (by kernel_rfl) (by kernel_rfl) (by kernel_rfl) rfl (by kernel_rfl) (by kernel_rfl) (fun _ _ _ h => h) (Y.bin rfl rfl rfl (br_or32)) ?_
          refine TA.take 32 rfl rfl rfl rfl (by kernel_rfl) (by kernel_rfl) (by kernel_rfl) rfl (by kernel_rfl) (by kernel_rfl) (fun _ _ _ h => h) (Y.move rfl rfl) ?_
          refine TA.take 33 rfl rfl rfl rfl (by kernel_rfl) (by kernel_rfl) (by kernel_rfl) rfl (by kernel_rfl) (by kernel_rfl) (fun _ _ _ h => h) (Y.move rfl rfl) ?_
          refine TA.take 34 rfl rfl rfl rfl (by kernel_rfl) (by kernel_rfl) (by kernel_rfl) rfl (by kernel_rfl) (by kernel_rfl) (fun _ _ _ h => h) (Y.move rfl rfl) ?_
          refine TA.take 35 rfl rfl rfl rfl (by kernel_rfl) (by kernel_rfl) (by kernel_rfl) rfl (by kernel_rfl) (by kernel_rfl) (fun _ _ _ h => h) (Y.bin rfl rfl rfl (br_mulN (m := 4) (by omega))) ?_
          refine TA.take 36 rfl rfl rfl rfl (by kernel_rfl) (by kernel_rfl) (by kernel_rfl) rfl (by kernel_rfl) (by kernel_rfl) (fun _ _ _ h => h) (Y.bin rfl rfl rfl (br_addN (by omega))) ?_
          refine TA.take 37 rfl rfl rfl rfl (by kernel_rfl) (by kernel_rfl) (by kernel_rfl) rfl (by kernel_rfl) (by kernel_rfl) (fun _ _ _ h => h) (Y.bin rfl rfl rfl (br_addN (n := 3) (by omega))) ?_
          refine TA.take 38 rfl rfl rfl rfl (by kernel_rfl) (by kernel_rfl) (by kernel_rfl) rfl (by kernel_rfl) (by kernel_rfl) (fun _ _ _ h => h) (by first | exact Y.indexSlB rfl sl27 rfl rfl (by omega) nqq | exact Y.indexSl rfl sl27 rfl rfl (by omega) nqq) ?_
          refine TA.take 39 rfl rfl rfl rfl (by kernel_rfl) (by kernel_rfl) (by kernel_rfl) rfl (by kernel_rfl) (by kernel_rfl) (fun _ _ _ h => h) (Y.load rfl sc5 rfl ceo8) ?_
          refine TA.take 40 rfl rfl rfl rfl (by kernel_rfl) (by kernel_rfl) (by kernel_rfl) rfl (by kernel_rfl) (by kernel_rfl) (fun _ _ _ h => h) (Y.conv rfl Try.underlying5 Try.underlying45 rfl (cv_8_32)) ?_
          refine TA.take 41 rfl rfl rfl rfl (by kernel_rfl) (by kernel_rfl) (by kernel_rfl) rfl (by kernel_rfl) (by kernel_rfl) (fun _ _ _ h => h) (Y.bin rfl rfl rfl (br_or32)) ?_
          refine TA.take 42 rfl rfl rfl rfl (by kernel_rfl) (by kernel_rfl) (by kernel_rfl) rfl (by kernel_rfl) (by kernel_rfl) (fun _ _ _ h => h) (Y.indexArr rfl ar102 rfl rfl (by omega) nqq) ?_
          refine TA.one0 43 (by kernel_rfl) rfl rfl rfl (by first | exact X.store rfl sz45 rfl rfl rfl pul lnn (by first | exact setM | rfl) | exact X.storeOwn rfl sz45 rfl (Nat.zero_add _).symm rfl rfl pul lnn (by first | exact setML | rfl) | exact X.storeOwn rfl sz45 rfl rfl rfl rfl pul lnn (by first | exact setML | rfl)) ?_
          rintro _ _ rfl
          refine ⟨(Or.inl (by kernel_rfl)), ?_⟩
          refine TA.done (by kernel_rfl) ?_
          refine TQ.block_normal ?_
          refine TQ.next ?_
          refine TC.region ?_
          refine TL.val rfl rfl rfl (Y.bin rfl rfl rfl (br_addN (n := 1) (by omega))) ?_
          refine TL.val rfl rfl rfl (Y.move rfl rfl) ?_
          refine TL.nil ?_
          rw [wordR]
          refine TQ.loopF (k + 1) (by omega) (by omega) ⟨rfl, trivial⟩ (by (repeat first | apply Grow.refl | apply Grow.step | apply Grow.app)) ?_ ?_ ?_
          · kernel_rfl
          · rfl
          · simp only [List.cons_append, List.nil_append]
            exact ett
        · try simp only [decide_eq_true_eq, decide_eq_false_iff_not, Bool.not_eq_true', Bool.not_eq_false', Bool.and_eq_true, Bool.or_eq_true, Nat.not_lt, Nat.not_le, beq_iff_eq, bne_iff_ne] at c3
          refine TC.exit ?_
          refine TQ.then_exit ?_
          refine TQ.then_exit ?_
          refine TQ.block_exit ?_
          refine TQ.next ?_
          refine TC.seq ?_
          refine TC.seq ?_
          refine TC.region ?_
          refine TL.val rfl rfl rfl (Y.assign rfl rfl) ?_
          refine TL.nil ?_
          refine TQ.next ?_
          refine TC.block ?_
          obtain rfl : k = 16 := by omega
          refine TC.loopF (ι := Nat) [] (fun k => k ≤ 64) (fun k => [(10, some (vN (k + 16)))]) (fun k => [SA.blk b8 ((fill2 (M.drop (64 * q)) k).map v32).toArray 102]) (fun k => 64 - k) (0) (by omega) ⟨rfl, trivial⟩ (Pulls.cons pul Pulls.nil) ?_
          rintro k hk F' L' rfl hL'
          simp only [List.cons_append, List.nil_append] at hL'
          subst hL'
          have hw2 := fill2_len (M.drop (64 * q)) k
          refine TC.seq ?_
          refine TC.seq ?_
          refine TC.region ?_
          refine TL.val rfl rfl rfl (Y.move rfl rfl) ?_
          refine TL.val rfl rfl rfl (Y.bin rfl rfl rfl (br_ltN (n := 80))) ?_
          refine TL.nil ?_
          refine TQ.next ?_
          refine TC.cond rfl (fun c4 => ?_) (fun c4 => ?_)
          · try simp only [decide_eq_true_eq, decide_eq_false_iff_not, Bool.not_eq_true', Bool.not_eq_false', Bool.and_eq_true, Bool.or_eq_true, Nat.not_lt, Nat.not_le, beq_iff_eq, bne_iff_ne] at c4
            refine TC.skip ?_
            refine TQ.next ?_
            refine TC.seq ?_
            refine TC.block ?_
            refine TC.draws 22 _ (by kernel_rfl) (by kernel_rfl) (fun _ h => h) ?_
            refine TA.take 0 rfl rfl rfl rfl (by kernel_rfl) (by kernel_rfl) (by kernel_rfl) rfl (by kernel_rfl) (by kernel_rfl) (fun _ _ _ h => h) (Y.move rfl rfl) ?_
            refine TA.take 1 rfl rfl rfl rfl (by kernel_rfl) (by kernel_rfl) (by kernel_rfl) rfl (by kernel_rfl) (by kernel_rfl) (fun _ _ _ h => h) (Y.move rfl rfl) ?_
            refine TA.take 2 rfl rfl rfl rfl (by kernel_rfl) (by kernel_rfl) (by kernel_rfl) rfl (by kernel_rfl) (by kernel_rfl) (fun _ _ _ h => h) (Y.bin rfl rfl rfl (br_subN (n := 3) (by omega) (by omega))) ?_
            refine TA.take 3 rfl rfl rfl rfl (by kernel_rfl) (by kernel_rfl) (by kernel_rfl) rfl (by kernel_rfl) (by kernel_rfl) (fun _ _ _ h => h) (Y.indexArr rfl ar102 rfl rfl (by omega) nqq) ?_
            refine TA.take 4 rfl rfl rfl rfl (by kernel_rfl) (by kernel_rfl) (by kernel_rfl) rfl (by kernel_rfl) (by kernel_rfl) (fun _ _ _ h => h) (Y.load rfl sc45 rfl ceo32) ?_
            refine TA.take 5 rfl rfl rfl rfl (by kernel_rfl) (by kernel_rfl) (by kernel_rfl) rfl (by kernel_rfl) (by kernel_rfl) (fun _ _ _ h => h) (Y.move rfl rfl) ?_
            refine TA.take 6 rfl rfl rfl rfl (by kernel_rfl) (by kernel_rfl) (by kernel_rfl) rfl (by kernel_rfl) (by kernel_rfl) (fun _ _ _ h => h) (Y.bin rfl rfl rfl (br_subN (n := 8) (by omega) (by omega))) ?_
            refine TA.take 7 rfl rfl rfl rfl (by kernel_rfl) (by kernel_rfl) (by kernel_rfl) rfl (by kernel_rfl) (by kernel_rfl) (fun _ _ _ h => h) (Y.indexArr rfl ar102 rfl rfl (by omega) nqq) ?_
            refine TA.take 8 rfl rfl rfl rfl (by kernel_rfl) (by kernel_rfl) (by kernel_rfl) rfl (by kernel_rfl) (by kernel_rfl) (fun _ _ _ h => h) (Y.load rfl sc45 rfl ceo32) ?_
            refine TA.take 9 rfl rfl rfl rfl (by kernel_rfl) (by kernel_rfl) (by kernel_rfl) rfl (by kernel_rfl) (by kernel_rfl) (fun _ _ _ h => h) (Y.bin rfl rfl rfl (br_xor32)) ?_
            refine TA.take 10 rfl rfl rfl rfl (by kernel_rfl) (by kernel_rfl) (by kernel_rfl) rfl (by kernel_rfl) (by kernel_rfl) (fun _ _ _ h => h) (Y.move rfl rfl) ?_
            refine TA.take 11 rfl rfl rfl rfl (by kernel_rfl) (by kernel_rfl) (by kernel_rfl) rfl (by kernel_rfl) (by kernel_rfl) (fun _ _ _ h => h) (Y.bin rfl rfl rfl (br_subN (n := 14) (by omega) (by omega))) ?_
            refine TA.take 12 rfl rfl rfl rfl (by kernel_rfl) (by kernel_rfl) (by kernel_rfl) rfl (by kernel_rfl) (by kernel_rfl) (fun _ _ _ h => h) (Y.indexArr rfl ar102 rfl rfl (by omega) nqq) ?_
            refine TA.take 13 rfl rfl rfl rfl (by kernel_rfl) (by kernel_rfl) (by kernel_rfl) rfl (by kernel_rfl) (by kernel_rfl) (fun _ _ _ h => h) (Y.load rfl sc45 rfl ceo32) ?_
            refine TA.take 14 rfl rfl rfl rfl (by kernel_rfl) (by kernel_rfl) (by kernel_rfl) rfl (by kernel_rfl) (by kernel_rfl) (fun _ _ _ h => h) (Y.bin rfl rfl rfl (br_xor32)) ?_
            refine TA.take 15 rfl rfl rfl rfl (by kernel_rfl) (by kernel_rfl) (by kernel_rfl) rfl (by kernel_rfl) (by kernel_rfl) (fun _ _ _ h => h) (Y.move rfl rfl) ?_
            refine TA.take 16 rfl rfl rfl rfl (by kernel_rfl) (by kernel_rfl) (by kernel_rfl) rfl (by kernel_rfl) (by kernel_rfl) (fun _ _ _ h => h) (Y.bin rfl rfl rfl (br_subN (n := 16) (by omega) (by omega))) ?_
            refine TA.take 17 rfl rfl rfl rfl (by kernel_rfl) (by kernel_rfl) (by kernel_rfl) rfl (by kernel_rfl) (by kernel_rfl) (fun _ _ _ h => h) (Y.indexArr rfl ar102 rfl rfl (by omega) nqq) ?_
            refine TA.take 18 rfl rfl rfl rfl (by kernel_rfl) (by kernel_rfl) (by kernel_rfl) rfl (by kernel_rfl) (by kernel_rfl) (fun _ _ _ h => h) (Y.load rfl sc45 rfl ceo32) ?_
            refine TA.take 19 rfl rfl rfl rfl (by kernel_rfl) (by kernel_rfl) (by kernel_rfl) rfl (by kernel_rfl) (by kernel_rfl) (fun _ _ _ h => h) (Y.bin rfl rfl rfl (br_xor32)) ?_
            refine TA.one 20 (by kernel_rfl) rfl rfl rfl rfl (X.call rfl Try.func60 (by kernel_rfl) rfl rfl (rot.ref_fn _ 1 (by decide) _)) ?_
            rintro _ _ ⟨rfl, rfl⟩
            refine ⟨(Or.inr (fun w h A hA => h A (by with_reducible (first | assumption | (repeat first | exact In.there hA | apply In.there))))), ?_⟩
            refine TA.take 21 rfl rfl rfl rfl (by kernel_rfl) (by kernel_rfl) (by kernel_rfl) rfl (by kernel_rfl) (by kernel_rfl) (fun _ _ _ h => h) (Y.indexArr rfl ar102 rfl rfl (by omega) nqq) ?_
            refine TA.one0 22 (by kernel_rfl) rfl rfl rfl (by first | exact X.store rfl sz45 rfl rfl rfl pul lnn (by first | exact setM | rfl) | exact X.storeOwn rfl sz45 rfl (Nat.zero_add _).symm rfl rfl pul lnn (by first | exact setML | rfl) | exact X.storeOwn rfl sz45 rfl rfl rfl rfl pul lnn (by first | exact setML | rfl)) ?_
            rintro _ _ rfl
            refine ⟨(Or.inl (by kernel_rfl)), ?_⟩
            refine TA.done (by kernel_rfl) ?_
            refine TQ.block_normal ?_
            refine TQ.next ?_
            refine TC.region ?_
            refine TL.val rfl rfl rfl (Y.move rfl rfl) ?_
            refine TL.val rfl rfl rfl (Y.bin rfl rfl rfl (br_addN (n := 1) (by omega))) ?_
            refine TL.val rfl rfl rfl (Y.assign rfl rfl) ?_
            refine TL.nil ?_
            refine TQ.loopF (k + 1) (by omega) (by omega) ⟨rfl, trivial⟩ (by (repeat first | apply Grow.refl | apply Grow.step | apply Grow.app)) ?_ ?_ ?_
            · kernel_rfl
            · rfl
            · simp only [List.cons_append, List.nil_append]
              exact ett
          · try simp only [decide_eq_true_eq, decide_eq_false_iff_not, Bool.not_eq_true', Bool.not_eq_false', Bool.and_eq_true, Bool.or_eq_true, Nat.not_lt, Nat.not_le, beq_iff_eq, bne_iff_ne] at c4
            refine TC.exit ?_
            refine TQ.then_exit ?_
            refine TQ.then_exit ?_
            refine TQ.block_exit ?_
            refine TQ.next ?_
            refine TC.seq ?_
            obtain rfl : k = 64 := by omega
            generalize hW : fill2 (M.drop (64 * q)) 64 = W at hw2 ⊢
            generalize hH : runB H0 M q = H at hrl ⊢
            refine TC.region ?_
            refine TL.val rfl rfl rfl (Y.loadAgg rfl ag101 rfl (Cels.full inn) (by ((try simp only [List.length_map, List.length_set, List.length_replicate]); omega))) ?_
            refine TL.eff rfl rfl rfl (X.alloc rfl zc101) ?_
            rintro _ _ ⟨b11, rfl, rfl⟩
            refine TL.eff0 rfl rfl (by first | exact X.storeAll rfl sz101 szz rfl rfl (by simp [Value.oneCell']) pul szz | exact X.storeAgg rfl sz101 szz rfl rfl (by simp [Value.oneCell']) pul szz (writeM (by ((try simp only [List.length_set, List.length_map, List.length_append, List.length_replicate]); omega)))) ?_
            rintro _ _ rfl
            refine TL.nil ?_
            refine TQ.next ?_
            refine TC.seq ?_
            refine TC.seq ?_
            refine TC.region ?_
            refine TL.val rfl rfl rfl (Y.move rfl rfl) ?_
            refine TL.nil ?_
            refine TQ.next ?_
            refine TC.block ?_
            refine TC.loopF (ι := Nat) [] (fun k => k ≤ 80) (fun k => [(132, some (vN k))]) (fun k => [SA.blk b11 ((rounds W (s5 H) k).list.map v32).toArray 101]) (fun k => 80 - k) (0) (by omega) ⟨rfl, trivial⟩ (by rw [show (rounds W (s5 H) 0).list = H from s5_list hrl]; exact Pulls.cons pul Pulls.nil) ?_
            rintro k hk F' L' rfl hL'
            simp only [List.cons_append, List.nil_append] at hL'
            subst hL'
            have hll := list_len (rounds W (s5 H) k)
            generalize hS : rounds W (s5 H) k = s at hll ⊢
            refine TC.seq ?_
            refine TC.region ?_
            refine TL.val rfl rfl rfl (Y.bin rfl rfl rfl (br_ltN (n := 80))) ?_
            refine TL.nil ?_
            refine TQ.next ?_
            refine TC.seq ?_
            refine TC.cond rfl (fun c5 => ?_) (fun c5 => ?_)
            · try simp only [decide_eq_true_eq, decide_eq_false_iff_not, Bool.not_eq_true', Bool.not_eq_false', Bool.and_eq_true, Bool.or_eq_true, Nat.not_lt, Nat.not_le, beq_iff_eq, bne_iff_ne] at c5
              refine TC.skip ?_
              refine TQ.next ?_
              refine TC.seq ?_
              refine TC.block ?_
              refine TC.seq ?_
              refine TC.region ?_
              refine TL.val rfl rfl rfl (Y.move rfl rfl) ?_
              refine TL.val rfl rfl rfl (Y.assign rfl rfl) ?_
              refine TL.nil ?_
              refine TQ.next ?_
              refine TC.seq ?_
              refine TC.draws 9 _ (by kernel_rfl) (by kernel_rfl) (fun _ h => h) ?_
              refine TA.take 0 rfl rfl rfl rfl (by kernel_rfl) (by kernel_rfl) (by kernel_rfl) rfl (by kernel_rfl) (by kernel_rfl) (fun _ _ _ h => h) (Y.indexArr (j := 1) rfl ar101 rfl rfl (by omega) nqq) ?_
              refine TA.take 1 rfl rfl rfl rfl (by kernel_rfl) (by kernel_rfl) (by kernel_rfl) rfl (by kernel_rfl) (by kernel_rfl) (fun _ _ _ h => h) (Y.load rfl sc45 rfl ceo32) ?_
              refine TA.take 2 rfl rfl rfl rfl (by kernel_rfl) (by kernel_rfl) (by kernel_rfl) rfl (by kernel_rfl) (by kernel_rfl) (fun _ _ _ h => h) (Y.indexArr (j := 2) rfl ar101 rfl rfl (by omega) nqq) ?_
              refine TA.take 3 rfl rfl rfl rfl (by kernel_rfl) (by kernel_rfl) (by kernel_rfl) rfl (by kernel_rfl) (by kernel_rfl) (fun _ _ _ h => h) (Y.load rfl sc45 rfl ceo32) ?_
              refine TA.take 4 rfl rfl rfl rfl (by kernel_rfl) (by kernel_rfl) (by kernel_rfl) rfl (by kernel_rfl) (by kernel_rfl) (fun _ _ _ h => h) (Y.indexArr (j := 3) rfl ar101 rfl rfl (by omega) nqq) ?_
              refine TA.take 5 rfl rfl rfl rfl (by kernel_rfl) (by kernel_rfl) (by kernel_rfl) rfl (by kernel_rfl) (by kernel_rfl) (fun _ _ _ h => h) (Y.load rfl sc45 rfl ceo32) ?_
              refine TA.take 6 rfl rfl rfl rfl (by kernel_rfl) (by kernel_rfl) (by kernel_rfl) rfl (by kernel_rfl) (by kernel_rfl) (fun _ _ _ h => h) (Y.assign rfl rfl) ?_
              refine TA.take 7 rfl rfl rfl rfl (by kernel_rfl) (by kernel_rfl) (by kernel_rfl) rfl (by kernel_rfl) (by kernel_rfl) (fun _ _ _ h => h) (Y.assign rfl rfl) ?_
              refine TA.take 8 rfl rfl rfl rfl (by kernel_rfl) (by kernel_rfl) (by kernel_rfl) rfl (by kernel_rfl) (by kernel_rfl) (fun _ _ _ h => h) (Y.assign rfl rfl) ?_
              refine TA.done (by kernel_rfl) ?_
              refine TQ.next ?_
              refine TC.seq ?_
              refine TC.region ?_
              refine TL.val rfl rfl rfl (Y.move rfl rfl) ?_
              refine TL.val rfl rfl rfl (Y.move rfl rfl) ?_
              refine TL.val rfl rfl rfl (Y.bin rfl rfl rfl (br_and32)) ?_
              refine TL.val rfl rfl rfl (Y.move rfl rfl) ?_
              refine TL.val rfl rfl rfl (Y.xor32 rfl rfl) ?_
              refine TL.val rfl rfl rfl (Y.move rfl rfl) ?_
              refine TL.val rfl rfl rfl (Y.bin rfl rfl rfl (br_and32)) ?_
              refine TL.val rfl rfl rfl (Y.bin rfl rfl rfl (br_or32)) ?_
              refine TL.val rfl rfl rfl (Y.assign rfl rfl) ?_
              refine TL.val rfl rfl rfl (Y.assign rfl rfl) ?_
              refine TL.nil ?_
              refine TQ.next ?_
              refine TC.cutF (ι := Unit) [] (fun _ => True) (fun _ => [(16, some (v32 (ff (k / 20) s.b s.c s.d))), (17, some (v32 (kk (k / 20))))]) (fun _ => []) (Ao := []) Pulls.nil ?_ ?_
              · rintro L' hL'
                simp only [List.cons_append, List.nil_append] at hL'
                subst hL'
                refine TC.block ?_
                refine TC.seq ?_
                refine TC.region ?_
                refine TL.val rfl rfl rfl (Y.move rfl rfl) ?_
                refine TL.val rfl rfl rfl (Y.bin rfl rfl rfl (br_geN (n := 60))) ?_
                refine TL.val rfl rfl rfl (Y.assign rfl rfl) ?_
                refine TL.nil ?_
                refine TQ.next ?_
                refine TC.cond rfl (fun c6 => ?_) (fun c6 => ?_)
                · try simp only [decide_eq_true_eq, decide_eq_false_iff_not, Bool.not_eq_true', Bool.not_eq_false', Bool.and_eq_true, Bool.or_eq_true, Nat.not_lt, Nat.not_le, beq_iff_eq, bne_iff_ne] at c6
                  refine TC.region ?_
                  refine TL.val rfl rfl rfl (Y.move rfl rfl) ?_
                  refine TL.val rfl rfl rfl (Y.move rfl rfl) ?_
                  refine TL.val rfl rfl rfl (Y.bin rfl rfl rfl (br_xor32)) ?_
                  refine TL.val rfl rfl rfl (Y.move rfl rfl) ?_
                  refine TL.val rfl rfl rfl (Y.bin rfl rfl rfl (br_xor32)) ?_
                  refine TL.val rfl rfl rfl (Y.assign rfl rfl) ?_
                  refine TL.val rfl rfl rfl (Y.assign rfl rfl) ?_
                  refine TL.nil ?_
                  refine TQ.block_normal ?_
                  refine TQ.meetF (()) (trivial) (by first | exact ⟨by rw [ffR_3 c6]; rfl, by rw [kkR_3 c6]; rfl, trivial⟩ | exact ⟨by rw [ffR_2 c7 c6]; rfl, by rw [kkR_2 c7 c6]; rfl, trivial⟩ | exact ⟨by rw [ffR_1 c8 c7]; rfl, by rw [kkR_1 c8 c7]; rfl, trivial⟩ | exact ⟨by rw [ffR_0 c8]; rfl, by rw [kkR_0 c8]; rfl, trivial⟩) (by (repeat first | apply Grow.refl | apply Grow.step | apply Grow.app)) ?_ ?_
                  · kernel_rfl
                  · simp only [List.cons_append, List.nil_append]
                    exact ett
                · try simp only [decide_eq_true_eq, decide_eq_false_iff_not, Bool.not_eq_true', Bool.not_eq_false', Bool.and_eq_true, Bool.or_eq_true, Nat.not_lt, Nat.not_le, beq_iff_eq, bne_iff_ne] at c6
                  refine TC.seq ?_
                  refine TC.region ?_
                  refine TL.val rfl rfl rfl (Y.move rfl rfl) ?_
                  refine TL.val rfl rfl rfl (Y.bin rfl rfl rfl (br_geN (n := 40))) ?_
                  refine TL.val rfl rfl rfl (Y.assign rfl rfl) ?_
                  refine TL.nil ?_
                  refine TQ.next ?_
                  refine TC.cond rfl (fun c7 => ?_) (fun c7 => ?_)
                  · try simp only [decide_eq_true_eq, decide_eq_false_iff_not, Bool.not_eq_true', Bool.not_eq_false', Bool.and_eq_true, Bool.or_eq_true, Nat.not_lt, Nat.not_le, beq_iff_eq, bne_iff_ne] at c7
                    refine TC.region ?_
                    refine TL.val rfl rfl rfl (Y.move rfl rfl) ?_
                    refine TL.val rfl rfl rfl (Y.move rfl rfl) ?_
                    refine TL.val rfl rfl rfl (Y.bin rfl rfl rfl (br_and32)) ?_
                    refine TL.val rfl rfl rfl (Y.move rfl rfl) ?_
                    refine TL.val rfl rfl rfl (Y.move rfl rfl) ?_
                    refine TL.val rfl rfl rfl (Y.bin rfl rfl rfl (br_and32)) ?_
                    refine TL.val rfl rfl rfl (Y.bin rfl rfl rfl (br_or32)) ?_
                    refine TL.val rfl rfl rfl (Y.move rfl rfl) ?_
                    refine TL.val rfl rfl rfl (Y.move rfl rfl) ?_
                    refine TL.val rfl rfl rfl (Y.bin rfl rfl rfl (br_and32)) ?_
                    refine TL.val rfl rfl rfl (Y.bin rfl rfl rfl (br_or32)) ?_
                    refine TL.val rfl rfl rfl (Y.assign rfl rfl) ?_
                    refine TL.val rfl rfl rfl (Y.assign rfl rfl) ?_
                    refine TL.nil ?_
                    refine TQ.block_normal ?_
                    refine TQ.meetF (()) (trivial) (by first | exact ⟨by rw [ffR_3 c6]; rfl, by rw [kkR_3 c6]; rfl, trivial⟩ | exact ⟨by rw [ffR_2 c7 c6]; rfl, by rw [kkR_2 c7 c6]; rfl, trivial⟩ | exact ⟨by rw [ffR_1 c8 c7]; rfl, by rw [kkR_1 c8 c7]; rfl, trivial⟩ | exact ⟨by rw [ffR_0 c8]; rfl, by rw [kkR_0 c8]; rfl, trivial⟩) (by (repeat first | apply Grow.refl | apply Grow.step | apply Grow.app)) ?_ ?_
                    · kernel_rfl
                    · simp only [List.cons_append, List.nil_append]
                      exact ett
                  · try simp only [decide_eq_true_eq, decide_eq_false_iff_not, Bool.not_eq_true', Bool.not_eq_false', Bool.and_eq_true, Bool.or_eq_true, Nat.not_lt, Nat.not_le, beq_iff_eq, bne_iff_ne] at c7
                    refine TC.seq ?_
                    refine TC.region ?_
                    refine TL.val rfl rfl rfl (Y.move rfl rfl) ?_
                    refine TL.val rfl rfl rfl (Y.bin rfl rfl rfl (br_geN (n := 20))) ?_
                    refine TL.val rfl rfl rfl (Y.assign rfl rfl) ?_
                    refine TL.nil ?_
                    refine TQ.next ?_
                    refine TC.cond rfl (fun c8 => ?_) (fun c8 => ?_)
                    · try simp only [decide_eq_true_eq, decide_eq_false_iff_not, Bool.not_eq_true', Bool.not_eq_false', Bool.and_eq_true, Bool.or_eq_true, Nat.not_lt, Nat.not_le, beq_iff_eq, bne_iff_ne] at c8
                      refine TC.region ?_
                      refine TL.val rfl rfl rfl (Y.move rfl rfl) ?_
                      refine TL.val rfl rfl rfl (Y.move rfl rfl) ?_
                      refine TL.val rfl rfl rfl (Y.bin rfl rfl rfl (br_xor32)) ?_
                      refine TL.val rfl rfl rfl (Y.move rfl rfl) ?_
                      refine TL.val rfl rfl rfl (Y.bin rfl rfl rfl (br_xor32)) ?_
                      refine TL.val rfl rfl rfl (Y.assign rfl rfl) ?_
                      refine TL.val rfl rfl rfl (Y.assign rfl rfl) ?_
                      refine TL.nil ?_
                      refine TQ.block_normal ?_
                      refine TQ.meetF (()) (trivial) (by first | exact ⟨by rw [ffR_3 c6]; rfl, by rw [kkR_3 c6]; rfl, trivial⟩ | exact ⟨by rw [ffR_2 c7 c6]; rfl, by rw [kkR_2 c7 c6]; rfl, trivial⟩ | exact ⟨by rw [ffR_1 c8 c7]; rfl, by rw [kkR_1 c8 c7]; rfl, trivial⟩ | exact ⟨by rw [ffR_0 c8]; rfl, by rw [kkR_0 c8]; rfl, trivial⟩) (by (repeat first | apply Grow.refl | apply Grow.step | apply Grow.app)) ?_ ?_
                      · kernel_rfl
                      · simp only [List.cons_append, List.nil_append]
                        exact ett
                    · try simp only [decide_eq_true_eq, decide_eq_false_iff_not, Bool.not_eq_true', Bool.not_eq_false', Bool.and_eq_true, Bool.or_eq_true, Nat.not_lt, Nat.not_le, beq_iff_eq, bne_iff_ne] at c8
                      refine TC.skip ?_
                      refine TQ.block_normal ?_
                      refine TQ.meetF (()) (trivial) (by first | exact ⟨by rw [ffR_3 c6]; rfl, by rw [kkR_3 c6]; rfl, trivial⟩ | exact ⟨by rw [ffR_2 c7 c6]; rfl, by rw [kkR_2 c7 c6]; rfl, trivial⟩ | exact ⟨by rw [ffR_1 c8 c7]; rfl, by rw [kkR_1 c8 c7]; rfl, trivial⟩ | exact ⟨by rw [ffR_0 c8]; rfl, by rw [kkR_0 c8]; rfl, trivial⟩) (by (repeat first | apply Grow.refl | apply Grow.step | apply Grow.app)) ?_ ?_
                      · kernel_rfl
                      · simp only [List.cons_append, List.nil_append]
                        exact ett
              · rintro ⟨⟩ - F' L' rfl hL'
                simp only [List.cons_append, List.nil_append] at hL'
                subst hL'
                refine TC.draws 21 _ (by kernel_rfl) (by kernel_rfl) (fun _ h => h) ?_
                refine TA.take 0 rfl rfl rfl rfl (by kernel_rfl) (by kernel_rfl) (by kernel_rfl) rfl (by kernel_rfl) (by kernel_rfl) (fun _ _ _ h => h) (Y.indexArr (j := 0) rfl ar101 rfl rfl (by omega) nqq) ?_
                refine TA.take 1 rfl rfl rfl rfl (by kernel_rfl) (by kernel_rfl) (by kernel_rfl) rfl (by kernel_rfl) (by kernel_rfl) (fun _ _ _ h => h) (Y.load rfl sc45 rfl ceo32) ?_
                refine TA.take 3 rfl rfl rfl rfl (by kernel_rfl) (by kernel_rfl) (by kernel_rfl) rfl (by kernel_rfl) (by kernel_rfl) (fun _ _ _ h => h) (Y.move rfl rfl) ?_
                refine TA.take 5 rfl rfl rfl rfl (by kernel_rfl) (by kernel_rfl) (by kernel_rfl) rfl (by kernel_rfl) (by kernel_rfl) (fun _ _ _ h => h) (Y.indexArr (j := 4) rfl ar101 rfl rfl (by omega) nqq) ?_
                refine TA.take 6 rfl rfl rfl rfl (by kernel_rfl) (by kernel_rfl) (by kernel_rfl) rfl (by kernel_rfl) (by kernel_rfl) (fun _ _ _ h => h) (Y.load rfl sc45 rfl ceo32) ?_
                refine TA.take 8 rfl rfl rfl rfl (by kernel_rfl) (by kernel_rfl) (by kernel_rfl) rfl (by kernel_rfl) (by kernel_rfl) (fun _ _ _ h => h) (Y.move rfl rfl) ?_
                refine TA.take 10 rfl rfl rfl rfl (by kernel_rfl) (by kernel_rfl) (by kernel_rfl) rfl (by kernel_rfl) (by kernel_rfl) (fun _ _ _ h => h) (Y.move rfl rfl) ?_
                refine TA.take 11 rfl rfl rfl rfl (by kernel_rfl) (by kernel_rfl) (by kernel_rfl) rfl (by kernel_rfl) (by kernel_rfl) (fun _ _ _ h => h) (Y.indexArr rfl ar102 rfl rfl (by omega) nqq) ?_
                refine TA.take 12 rfl rfl rfl rfl (by kernel_rfl) (by kernel_rfl) (by kernel_rfl) rfl (by kernel_rfl) (by kernel_rfl) (fun _ _ _ h => h) (Y.load rfl sc45 rfl ceo32) ?_
                refine TA.take 14 rfl rfl rfl rfl (by kernel_rfl) (by kernel_rfl) (by kernel_rfl) rfl (by kernel_rfl) (by kernel_rfl) (fun _ _ _ h => h) (Y.indexArr (j := 0) rfl ar101 rfl rfl (by omega) nqq) ?_
                refine TA.take 15 rfl rfl rfl rfl (by kernel_rfl) (by kernel_rfl) (by kernel_rfl) rfl (by kernel_rfl) (by kernel_rfl) (fun _ _ _ h => h) (Y.load rfl sc45 rfl ceo32) ?_
                refine TA.take 16 rfl rfl rfl rfl (by kernel_rfl) (by kernel_rfl) (by kernel_rfl) rfl (by kernel_rfl) (by kernel_rfl) (fun _ _ _ h => h) (Y.move rfl rfl) ?_
                refine TA.take 18 rfl rfl rfl rfl (by kernel_rfl) (by kernel_rfl) (by kernel_rfl) rfl (by kernel_rfl) (by kernel_rfl) (fun _ _ _ h => h) (Y.move rfl rfl) ?_
                refine TA.take 19 rfl rfl rfl rfl (by kernel_rfl) (by kernel_rfl) (by kernel_rfl) rfl (by kernel_rfl) (by kernel_rfl) (fun _ _ _ h => h) (Y.move rfl rfl) ?_
                refine TA.one 2 (by kernel_rfl) rfl rfl rfl rfl (X.call rfl Try.func60 (by kernel_rfl) rfl rfl (rot.ref_fn _ 5 (by decide) _)) ?_
                rintro _ _ ⟨rfl, rfl⟩
                refine ⟨(Or.inr (fun w h A hA => h A (by with_reducible (first | assumption | (repeat first | exact In.there hA | apply In.there))))), ?_⟩
                refine TA.take 4 rfl rfl rfl rfl (by kernel_rfl) (by kernel_rfl) (by kernel_rfl) rfl (by kernel_rfl) (by kernel_rfl) (fun _ _ _ h => h) (Y.bin rfl rfl rfl (br_add32)) ?_
                refine TA.take 7 rfl rfl rfl rfl (by kernel_rfl) (by kernel_rfl) (by kernel_rfl) rfl (by kernel_rfl) (by kernel_rfl) (fun _ _ _ h => h) (Y.bin rfl rfl rfl (br_add32)) ?_
                refine TA.take 9 rfl rfl rfl rfl (by kernel_rfl) (by kernel_rfl) (by kernel_rfl) rfl (by kernel_rfl) (by kernel_rfl) (fun _ _ _ h => h) (Y.bin rfl rfl rfl (br_add32)) ?_
                refine TA.take 13 rfl rfl rfl rfl (by kernel_rfl) (by kernel_rfl) (by kernel_rfl) rfl (by kernel_rfl) (by kernel_rfl) (fun _ _ _ h => h) (Y.bin rfl rfl rfl (br_add32)) ?_
                refine TA.one 17 (by kernel_rfl) rfl rfl rfl rfl (X.call rfl Try.func60 (by kernel_rfl) rfl rfl (rot.ref_fn _ 30 (by decide) _)) ?_
                rintro _ _ ⟨rfl, rfl⟩
                refine ⟨(Or.inr (fun w h A hA => h A (by with_reducible (first | assumption | (repeat first | exact In.there hA | apply In.there))))), ?_⟩
                refine TA.take 20 rfl rfl rfl rfl (by kernel_rfl) (by kernel_rfl) (by kernel_rfl) rfl (by kernel_rfl) (by kernel_rfl) (fun _ _ _ h => h) (Y.buildM rfl rfl Try.underlying101 sz45 zc101 rfl rfl rfl (by first | exact (by simp only [List.all_cons, List.all_nil, Value.oneCell', Bool.and_self]) | rfl)) ?_
                refine TA.one0 21 (by kernel_rfl) rfl rfl rfl (by first | exact X.storeAll rfl sz101 szz rfl rfl (by simp [Value.oneCell']) pul szz | exact X.storeAgg rfl sz101 szz rfl rfl (by simp [Value.oneCell']) pul szz (writeM (by ((try simp only [List.length_set, List.length_map, List.length_append, List.length_replicate]); omega)))) ?_
                rintro _ _ rfl
                refine ⟨(Or.inl (by kernel_rfl)), ?_⟩
                refine TA.done (by kernel_rfl) ?_
                refine TQ.block_normal ?_
                refine TQ.next ?_
                refine TC.region ?_
                refine TL.val rfl rfl rfl (Y.bin rfl rfl rfl (br_addN (n := 1) (by omega))) ?_
                refine TL.val rfl rfl rfl (Y.move rfl rfl) ?_
                refine TL.nil ?_
                refine TQ.loopF (k + 1) (by omega) (by omega) ⟨rfl, trivial⟩ (by (repeat first | apply Grow.refl | apply Grow.step | apply Grow.app)) ?_ ?_ ?_
                · kernel_rfl
                · rfl
                · simp only [List.cons_append, List.nil_append]
                  exact (by rw [show rounds W (s5 H) (k + 1) = step k (W.getD k 0) s by rw [rounds, hS]]; exact ett)
            · try simp only [decide_eq_true_eq, decide_eq_false_iff_not, Bool.not_eq_true', Bool.not_eq_false', Bool.and_eq_true, Bool.or_eq_true, Nat.not_lt, Nat.not_le, beq_iff_eq, bne_iff_ne] at c5
              refine TC.exit ?_
              refine TQ.then_exit ?_
              refine TQ.then_exit ?_
              refine TQ.block_exit ?_
              refine TQ.next ?_
              refine TC.seq ?_
              refine TC.region ?_
              refine TL.val rfl rfl rfl (Y.move rfl rfl) ?_
              refine TL.nil ?_
              refine TQ.next ?_
              refine TC.block ?_
              obtain rfl : k = 80 := by omega
              refine TC.loopF (ι := Nat) [] (fun k => k ≤ 5) (fun k => [(201, some (vN k))]) (fun k => [SA.blk b3 ((adds H s.list k).map v32).toArray 101]) (fun k => 5 - k) (0) (by omega) ⟨rfl, trivial⟩ (Pulls.cons pul Pulls.nil) ?_
              rintro k hk F' L' rfl hL'
              simp only [List.cons_append, List.nil_append] at hL'
              subst hL'
              have hw7 := adds_len H s.list k
              refine TC.seq ?_
              refine TC.region ?_
              refine TL.val rfl rfl rfl (Y.bin rfl rfl rfl (br_ltN (n := 5))) ?_
              refine TL.nil ?_
              refine TQ.next ?_
              refine TC.seq ?_
              refine TC.cond rfl (fun c9 => ?_) (fun c9 => ?_)
              · try simp only [decide_eq_true_eq, decide_eq_false_iff_not, Bool.not_eq_true', Bool.not_eq_false', Bool.and_eq_true, Bool.or_eq_true, Nat.not_lt, Nat.not_le, beq_iff_eq, bne_iff_ne] at c9
                refine TC.skip ?_
                refine TQ.next ?_
                refine TC.seq ?_
                refine TC.block ?_
                refine TC.seq ?_
                refine TC.region ?_
                refine TL.val rfl rfl rfl (Y.move rfl rfl) ?_
                refine TL.val rfl rfl rfl (Y.assign rfl rfl) ?_
                refine TL.nil ?_
                refine TQ.next ?_
                refine TC.draws 9 _ (by kernel_rfl) (by kernel_rfl) (fun _ h => h) ?_
                refine TA.take 0 rfl rfl rfl rfl (by kernel_rfl) (by kernel_rfl) (by kernel_rfl) rfl (by kernel_rfl) (by kernel_rfl) (fun _ _ _ h => h) (Y.move rfl rfl) ?_
                refine TA.take 1 rfl rfl rfl rfl (by kernel_rfl) (by kernel_rfl) (by kernel_rfl) rfl (by kernel_rfl) (by kernel_rfl) (fun _ _ _ h => h) (Y.move rfl rfl) ?_
                refine TA.take 2 rfl rfl rfl rfl (by kernel_rfl) (by kernel_rfl) (by kernel_rfl) rfl (by kernel_rfl) (by kernel_rfl) (fun _ _ _ h => h) (Y.indexArr rfl ar101 rfl rfl (by omega) nqq) ?_
                refine TA.take 3 rfl rfl rfl rfl (by kernel_rfl) (by kernel_rfl) (by kernel_rfl) rfl (by kernel_rfl) (by kernel_rfl) (fun _ _ _ h => h) (Y.load rfl sc45 rfl ceo32) ?_
                refine TA.take 4 rfl rfl rfl rfl (by kernel_rfl) (by kernel_rfl) (by kernel_rfl) rfl (by kernel_rfl) (by kernel_rfl) (fun _ _ _ h => h) (Y.move rfl rfl) ?_
                refine TA.take 5 rfl rfl rfl rfl (by kernel_rfl) (by kernel_rfl) (by kernel_rfl) rfl (by kernel_rfl) (by kernel_rfl) (fun _ _ _ h => h) (Y.indexArr rfl ar101 rfl rfl (by omega) nqq) ?_
                refine TA.take 6 rfl rfl rfl rfl (by kernel_rfl) (by kernel_rfl) (by kernel_rfl) rfl (by kernel_rfl) (by kernel_rfl) (fun _ _ _ h => h) (Y.load rfl sc45 rfl ceo32) ?_
                refine TA.take 7 rfl rfl rfl rfl (by kernel_rfl) (by kernel_rfl) (by kernel_rfl) rfl (by kernel_rfl) (by kernel_rfl) (fun _ _ _ h => h) (Y.bin rfl rfl rfl (br_add32)) ?_
                refine TA.take 8 rfl rfl rfl rfl (by kernel_rfl) (by kernel_rfl) (by kernel_rfl) rfl (by kernel_rfl) (by kernel_rfl) (fun _ _ _ h => h) (Y.indexArr rfl ar101 rfl rfl (by omega) nqq) ?_
                refine TA.one0 9 (by kernel_rfl) rfl rfl rfl (by first | exact X.store rfl sz45 rfl rfl rfl pul lnn (by first | exact setM | rfl) | exact X.storeOwn rfl sz45 rfl (Nat.zero_add _).symm rfl rfl pul lnn (by first | exact setML | rfl) | exact X.storeOwn rfl sz45 rfl rfl rfl rfl pul lnn (by first | exact setML | rfl)) ?_
                rintro _ _ rfl
                refine ⟨(Or.inl (by kernel_rfl)), ?_⟩
                refine TA.done (by kernel_rfl) ?_
                refine TQ.block_normal ?_
                refine TQ.next ?_
                refine TC.region ?_
                refine TL.val rfl rfl rfl (Y.bin rfl rfl rfl (br_addN (n := 1) (by omega))) ?_
                refine TL.val rfl rfl rfl (Y.move rfl rfl) ?_
                refine TL.nil ?_
                refine TQ.loopF (k + 1) (by omega) (by omega) ⟨rfl, trivial⟩ (by (repeat first | apply Grow.refl | apply Grow.step | apply Grow.app)) ?_ ?_ ?_
                · kernel_rfl
                · rfl
                · simp only [List.cons_append, List.nil_append]
                  exact ett
              · try simp only [decide_eq_true_eq, decide_eq_false_iff_not, Bool.not_eq_true', Bool.not_eq_false', Bool.and_eq_true, Bool.or_eq_true, Nat.not_lt, Nat.not_le, beq_iff_eq, bne_iff_ne] at c9
                refine TC.exit ?_
                refine TQ.then_exit ?_
                refine TQ.then_exit ?_
                refine TQ.block_exit ?_
                refine TQ.block_normal ?_
                refine TQ.next ?_
                refine TC.region ?_
                refine TL.val rfl rfl rfl (Y.move rfl rfl) ?_
                refine TL.val rfl rfl rfl (Y.bin rfl rfl rfl (br_addN (n := 64) (by omega))) ?_
                refine TL.val rfl rfl rfl (Y.assign rfl rfl) ?_
                refine TL.nil ?_
                obtain rfl : k = 5 := by omega
                rw [show adds H s.list 5 = runB H0 M (q + 1) by rw [runB, hH, block, hW, hS]]
                refine TQ.loopF (q + 1) (by omega) (by omega) ⟨by rw [Nat.mul_succ]; rfl, trivial⟩ (by (repeat first | apply Grow.refl | apply Grow.step | apply Grow.app)) ?_ ?_ ?_
                · kernel_rfl
                · rfl
                · simp only [List.cons_append, List.nil_append]
                  exact ett
      · try simp only [decide_eq_true_eq, decide_eq_false_iff_not, Bool.not_eq_true', Bool.not_eq_false', Bool.and_eq_true, Bool.or_eq_true, Nat.not_lt, Nat.not_le, beq_iff_eq, bne_iff_ne] at c2
        refine TC.exit ?_
        refine TQ.then_exit ?_
        refine TQ.then_exit ?_
        refine TQ.block_exit ?_
        refine TQ.next ?_
        refine TC.seq ?_
        obtain rfl : q = M.length / 64 := by omega
        generalize hH : runB H0 M (M.length / 64) = H at hrl ⊢
        refine TC.region ?_
        refine TL.eff rfl rfl rfl (X.alloc rfl zc83) ?_
        rintro _ _ ⟨b19, rfl, rfl⟩
        refine TL.nil ?_
        refine TQ.next ?_
        refine TC.seq ?_
        refine TC.seq ?_
        refine TC.region ?_
        refine TL.val rfl rfl rfl (Y.move rfl rfl) ?_
        refine TL.nil ?_
        refine TQ.next ?_
        refine TC.block ?_
        refine TC.loopF (ι := Nat) [] (fun k => k ≤ 20) (fun k => [(214, some (vN k))]) (fun k => [SA.blk b19 ((outN H k).map v8).toArray 83]) (fun k => 20 - k) (0) (by omega) ⟨rfl, trivial⟩ (Pulls.cons pul Pulls.nil) ?_
        rintro k hk F' L' rfl hL'
        simp only [List.cons_append, List.nil_append] at hL'
        subst hL'
        have hol := outN_len H k
        refine TC.seq ?_
        refine TC.region ?_
        refine TL.val rfl rfl rfl (Y.bin rfl rfl rfl (br_ltN (n := 20))) ?_
        refine TL.nil ?_
        refine TQ.next ?_
        refine TC.seq ?_
        refine TC.cond rfl (fun c10 => ?_) (fun c10 => ?_)
        · try simp only [decide_eq_true_eq, decide_eq_false_iff_not, Bool.not_eq_true', Bool.not_eq_false', Bool.and_eq_true, Bool.or_eq_true, Nat.not_lt, Nat.not_le, beq_iff_eq, bne_iff_ne] at c10
          refine TC.skip ?_
          refine TQ.next ?_
          refine TC.seq ?_
          refine TC.block ?_
          refine TC.seq ?_
          refine TC.region ?_
          refine TL.val rfl rfl rfl (Y.move rfl rfl) ?_
          refine TL.val rfl rfl rfl (Y.assign rfl rfl) ?_
          refine TL.nil ?_
          refine TQ.next ?_
          refine TC.region ?_
          refine TL.val rfl rfl rfl (Y.move rfl rfl) ?_
          refine TL.val rfl rfl rfl (Y.move rfl rfl) ?_
          refine TL.val rfl rfl rfl (Y.bin rfl rfl rfl (br_quoN (n := 4) (by omega) (by omega))) ?_
          refine TL.val rfl rfl rfl (Y.indexArr rfl ar101 rfl rfl (by omega) nqq) ?_
          refine TL.val rfl rfl rfl (Y.load rfl sc45 rfl ceo32) ?_
          refine TL.val rfl rfl rfl (Y.move rfl rfl) ?_
          refine TL.val rfl rfl rfl (Y.bin rfl rfl rfl (br_remN (n := 4) (by omega))) ?_
          refine TL.val rfl rfl rfl (Y.bin rfl rfl rfl (br_mulN (m := 8) (by omega))) ?_
          refine TL.val rfl rfl rfl (Y.bin rfl rfl rfl (br_subN (m := 24) (by omega) (by omega))) ?_
          refine TL.val rfl rfl rfl (Y.conv rfl Try.underlying3 Try.underlying61 rfl (cv_N_64n (by omega))) ?_
          refine TL.val rfl rfl rfl (Y.bin rfl rfl rfl (br_shr32)) ?_
          refine TL.val rfl rfl rfl (Y.conv rfl Try.underlying45 Try.underlying5 rfl (cv_32_8)) ?_
          refine TL.val rfl rfl rfl (Y.indexArr rfl ar83 rfl rfl (by omega) nqq) ?_
          refine TL.eff0 rfl rfl (by first | exact X.store rfl sz5 rfl rfl rfl pul lnn (by first | exact setM | rfl) | exact X.storeOwn rfl sz5 rfl (Nat.zero_add _).symm rfl rfl pul lnn (by first | exact setML | rfl) | exact X.storeOwn rfl sz5 rfl rfl rfl rfl pul lnn (by first | exact setML | rfl)) ?_
          rintro _ _ rfl
          refine TL.nil ?_
          refine TQ.block_normal ?_
          refine TQ.next ?_
          refine TC.region ?_
          refine TL.val rfl rfl rfl (Y.bin rfl rfl rfl (br_addN (n := 1) (by omega))) ?_
          refine TL.val rfl rfl rfl (Y.move rfl rfl) ?_
          refine TL.nil ?_
          refine TQ.loopF (k + 1) (by omega) (by omega) ⟨rfl, trivial⟩ (by (repeat first | apply Grow.refl | apply Grow.step | apply Grow.app)) ?_ ?_ ?_
          · kernel_rfl
          · rfl
          · simp only [List.cons_append, List.nil_append]
            exact ett
        · try simp only [decide_eq_true_eq, decide_eq_false_iff_not, Bool.not_eq_true', Bool.not_eq_false', Bool.and_eq_true, Bool.or_eq_true, Nat.not_lt, Nat.not_le, beq_iff_eq, bne_iff_ne] at c10
          refine TC.exit ?_
          refine TQ.then_exit ?_
          refine TQ.then_exit ?_
          refine TQ.block_exit ?_
          refine TQ.next ?_
          refine TC.seq ?_
          obtain rfl : k = 20 := by omega
          have hol := outN_len H 20
          refine TC.region ?_
          refine TL.val rfl rfl rfl (Y.loadAgg rfl ag83 rfl (Cels.full inn) (by ((try simp only [List.length_map, List.length_set, List.length_replicate]); omega))) ?_
          refine TL.eff0 rfl rfl (by first | exact X.storeAll rfl sz83 szz rfl rfl (by simp [Value.oneCell']) pul szz | exact X.storeAgg rfl sz83 szz rfl rfl (by simp [Value.oneCell']) pul szz (writeM (by ((try simp only [List.length_set, List.length_map, List.length_append, List.length_replicate]); omega)))) ?_
          rintro _ _ rfl
          refine TL.nil ?_
          refine TQ.next ?_
          refine TC.ret ?_
          have hsha : sha bs = outN H 20 := by rw [sha, hM, hH]
          rw [← hsha]
          refine TQ.retE (resC rfl ag83 rfl (Cels.full inn) szz) (⟨rfl, rfl⟩) ?_
          exact ett
end sha
end Go.Proofs.Ytggammbhmoippaa
