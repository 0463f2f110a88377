/- The program's SHA-1 of parts. -/
import Derived.Test.YtomplpdeeomehaaShaPure
import Derived.Test.YtomplpdeeomehaaHParts
import Derived.Test.YtomplpdeeomehaaHAuto
namespace Go.Proofs.Ytomplpdeeomehaa
set_option linter.unusedVariables false
set_option linter.unusedSimpArgs false
open Go.RowKit
namespace sha
namespace FxShaSum
set_option maxRecDepth 100000
theorem ag101 : Program.aggN Try.prog 101 = some 20 := by kernel_rfl
theorem ar101 : Program.arrI Try.prog 101 = some (20, 1) := by kernel_rfl
theorem ar109 : Program.arrI Try.prog 109 = some (5, 1) := by kernel_rfl
theorem el23 : Elt Try.prog 23 5 1 1 (.int .u8 0) := ⟨Try.underlying23, by kernel_rfl, rfl, by decide, by simp [Value.cells, Value.oneCell']⟩
theorem sc22 : Program.isSc Try.prog 22 = true := by kernel_rfl
theorem sc23 : Program.isSc Try.prog 23 = true := by kernel_rfl
theorem sl24 : Program.slI Try.prog 24 = some 1 := by kernel_rfl
theorem sz101 : (Try.prog.info? 101).map (·.size) = some 20 := by kernel_rfl
theorem sz109 : (Try.prog.info? 109).map (·.size) = some 5 := by kernel_rfl
theorem sz22 : (Try.prog.info? 22).map (·.size) = some 1 := by kernel_rfl
theorem sz5 : (Try.prog.info? 5).map (·.size) = some 1 := by kernel_rfl
theorem zc101 : Program.zeroC Try.prog 101 = some ((List.replicate 20 (0 : UInt8)).map v8).toArray := by kernel_rfl
theorem zc109 : Program.zeroC Try.prog 109 = some ((List.replicate 5 (0 : UInt32)).map v32).toArray := by kernel_rfl
end FxShaSum
open FxShaSum
theorem cat_take_succ {ps : List Pt} {k : Nat} {d : Pt} (h : k < ps.length) : cat (ps.take (k + 1)) = cat (ps.take k) ++ (ps.getD k d).2.2 := by
  rw [List.take_succ_eq_append_getElem h, cat, List.flatMap_append]
  simp [cat, List.getD_eq_getElem?_getD, h]
theorem cat_zero {ps : List Pt} : cat (ps.take 0) = [] := by simp [cat]
def rz (T : List UInt8) (j : Nat) : List UInt8 := T.drop (64 * (T.length / 64)) ++ ([128] ++ List.replicate j 0)
def rl (T : List UInt8) (i : Nat) : List UInt8 := T.drop (64 * (T.length / 64)) ++ ([128] ++ (List.replicate (zeros T.length) 0 ++ lenB (bitsN T) i))
theorem rz_0 (T : List UInt8) : List.map v8 (T.drop (64 * (T.length / 64))) ++ [Value.int .u8 128] = List.map v8 (rz T 0) := by simp [rz]
theorem rz_s (T : List UInt8) (j : Nat) : List.map v8 (rz T j) ++ [Value.int .u8 0] = List.map v8 (rz T (j + 1)) := by simp [rz, List.replicate_succ']
theorem rl_0 (T : List UInt8) : rz T (zeros T.length) = rl T 0 := by simp [rz, rl, lenB]
theorem rl_s (T : List UInt8) (j : Nat) : List.map v8 (rl T j) ++ [v8 (shr64 (UInt64.ofNat T.length * 8) (56 - 8 * j)).toUInt8] = List.map v8 (rl T (j + 1)) := by simp [rl, lenB_succ, bitsN]
theorem rl_8 (T : List UInt8) : rl T 8 = (padded T).drop (64 * (T.length / 64)) := by rw [rl, padded, List.drop_append_of_le_length (by omega)]
theorem cat_take_le (ps : List Pt) (k : Nat) : (cat (ps.take k)).length ≤ (cat ps).length := by
  conv => rhs; rw [← List.take_append_drop k ps]
  simp only [cat, List.flatMap_append, List.length_append]; omega
set_option maxHeartbeats 4000000 in
theorem sum_fn (B : SA) (pp : Addr) (m mc : Nat) (ps : List Pt) (vs : List Value) (hB0 : Reads B 1 (.slice (some pp) m mc) m vs) (hv : vs = ps.map pv) (hm : ps.length = m) (hlen : (cat ps).length ≤ 140737488354000) (L : List SA) :
    Fn Try.prog 56 [.slice (some pp) m mc] (B :: SA.parts ps :: L) (fun v L' => v = .agg ((sha (cat ps)).map v8).toArray ∧ L' = B :: SA.parts ps :: L) := by
  have hB : Reads B 1 (.slice (some pp) m mc) m (ps.map pv) := hv ▸ hB0
  clear hB0 hv
  refine Fn.of (N := 82) Try.func56 rfl rfl ?_
  intro Xh
  refine TC.know (reads_cap hB inn) ?_
  rintro ⟨hmc, hcm, -, -⟩
  simp only [maxLen] at hcm
  refine TC.seq ?_
  refine TC.region ?_
  refine TL.eff rfl rfl rfl (X.alloc rfl zc101) ?_
  rintro _ _ ⟨b2, rfl, rfl⟩
  refine TL.nil ?_
  refine TQ.next ?_
  refine TC.seq ?_
  refine TC.region ?_
  refine TL.val rfl rfl rfl (Y.buildM rfl rfl Try.underlying109 sz22 zc109 rfl rfl rfl (by first | exact (by simp only [List.all_cons, List.all_nil, Value.oneCell', Bool.and_self]) | rfl)) ?_
  refine TL.eff rfl rfl rfl (X.alloc rfl zc109) ?_
  rintro _ _ ⟨b3, rfl, rfl⟩
  refine TL.eff0 rfl rfl (by first | exact X.storeAll rfl sz109 szz rfl rfl (by simp [Value.oneCell']) pul szz | exact X.storeAgg rfl sz109 szz rfl rfl (by simp [Value.oneCell']) pul szz (writeM (by ((try simp only [List.length_set, List.length_map, List.length_append, List.length_replicate]); omega)))) ?_
  rintro _ _ rfl
  refine TL.nil ?_
  refine TQ.next ?_
  refine TC.seq ?_
  refine TC.region ?_
  refine TL.val rfl rfl rfl (Y.assign rfl rfl) ?_
  refine TL.nil ?_
  refine TQ.next ?_
  refine TC.seq ?_
  refine TC.region ?_
  refine TL.val rfl rfl rfl (Y.assign rfl rfl) ?_
  refine TL.nil ?_
  refine TQ.next ?_
  refine TC.seq ?_
  refine TC.seq ?_
  refine TC.to (Ent.nilOwn 5 1) ?_
  refine TC.region ?_
  refine TL.val rfl rfl rfl (Y.move rfl rfl) ?_
  refine TL.val rfl rfl rfl (Y.len rfl Try.underlying24 rfl) ?_
  refine TL.val rfl rfl rfl (Y.move rfl rfl) ?_
  refine TL.nil ?_
  refine TQ.next ?_
  refine TC.block ?_
  refine TC.loopF (ι := Nat × Option Addr × Nat) [] (fun i => i.1 ≤ m) (fun i => [(14, some (vN i.1)), (5, some (v64 (UInt64.ofNat (cat (ps.take i.1)).length))), (4, some (.slice i.2.1 ((cat (ps.take i.1)).length % 64) i.2.2))]) (fun i => [SA.blk b3 ((runB H0 (cat (ps.take i.1)) ((cat (ps.take i.1)).length / 64)).map v32).toArray 109, SA.owns 5 1 (.slice i.2.1 ((cat (ps.take i.1)).length % 64) i.2.2) ((cat (ps.take i.1)).length % 64) (((cat (ps.take i.1)).drop (64 * ((cat (ps.take i.1)).length / 64))).map v8)]) (fun i => m - i.1) ((0, none, 0)) (by omega) ⟨rfl, by rw [cat_zero]; rfl, by rw [cat_zero]; rfl, trivial⟩ (by simp only [cat_zero, List.length_nil, Nat.zero_mod, Nat.zero_div, runB, List.drop_nil, Nat.mul_zero, List.map_nil]; exact Pulls.cons pul (Pulls.cons pul Pulls.nil)) ?_
  rintro ⟨k, a, cap⟩ hk F' L' rfl hL'
  simp only [List.cons_append, List.nil_append] at hL'
  subst hL'
  have hle := cat_take_le ps k; have hle2 := cat_take_le ps (k + 1); dsimp only at hk ⊢
  refine TC.seq ?_
  refine TC.region ?_
  refine TL.val rfl rfl rfl (Y.bin rfl rfl rfl (br_ltN)) ?_
  refine TL.nil ?_
  refine TQ.next ?_
  refine TC.seq ?_
  refine TC.cond rfl (fun c0 => ?_) (fun c0 => ?_)
  · try simp only [decide_eq_true_eq, decide_eq_false_iff_not, Bool.not_eq_true', Bool.not_eq_false', Bool.and_eq_true, Bool.or_eq_true, Nat.not_lt, Nat.not_le, beq_iff_eq, bne_iff_ne] at c0
    refine TC.skip ?_
    refine TQ.next ?_
    refine TC.seq ?_
    refine TC.block ?_
    refine TC.seq ?_
    refine TC.region ?_
    refine TL.val rfl rfl rfl (by first | exact Y.indexSlB rfl sl24 rfl rfl (by omega) nqq | exact Y.indexSl rfl sl24 rfl rfl (by omega) nqq) ?_
    refine TL.val rfl rfl rfl (Y.load rfl sc23 rfl ceoD) ?_
    refine TL.val rfl rfl rfl (Y.assign rfl rfl) ?_
    refine TL.nil ?_
    have hmem : ps.getD k default ∈ ps := getD_mem' (by omega)
    have hcat := cat_take_succ (d := default) (show k < ps.length by omega)
    generalize ps.getD k default = x at hmem hcat ⊢
    generalize hT : cat (ps.take k) = T at hle hcat ⊢
    obtain ⟨T', hT'⟩ : ∃ T', T' = T ++ x.2.2 := ⟨_, rfl⟩
    have hTl : T'.length = T.length + x.2.2.length := by rw [hT', List.length_append]
    have hTb : T'.length ≤ (cat ps).length := by rw [hT', ← hcat]; exact hle2
    refine TQ.next ?_
    refine TC.seq ?_
    refine TC.region ?_
    refine TL.val rfl rfl rfl (Y.move rfl rfl) ?_
    refine TL.val rfl rfl rfl (Y.move rfl rfl) ?_
    refine TL.val rfl rfl rfl (Y.len rfl Try.underlying23 rfl) ?_
    refine TL.val rfl rfl rfl (Y.conv rfl Try.underlying3 Try.underlying32 rfl (cv_N_64)) ?_
    refine TL.val rfl rfl rfl (Y.bin rfl rfl rfl (br_add64)) ?_
    refine TL.val rfl rfl rfl (Y.assign rfl rfl) ?_
    refine TL.nil ?_
    refine TQ.next ?_
    refine TC.seq ?_
    refine TC.region ?_
    refine TL.val rfl rfl rfl (Y.move rfl rfl) ?_
    refine TL.val rfl rfl rfl (Y.move rfl rfl) ?_
    refine TL.eff rfl rfl rfl (X.appendS rfl el23 rfl pul rfl (Src.parts Try.underlying23 inn hmem) (by simp only [maxLen]; omega) (by omega)) ?_
    rintro _ _ ⟨a25, c25, rfl, rfl⟩
    refine TL.val rfl rfl rfl (Y.assign rfl rfl) ?_
    refine TL.nil ?_
    refine TQ.next ?_
    refine TC.block ?_
    have e1 : T.length % 64 + x.2.2.length = T'.length - 64 * (T.length / 64) := by omega
    have e2 : (T.drop (64 * (T.length / 64))).map v8 ++ x.2.2.map v8 = (T'.drop (64 * (T.length / 64))).map v8 := by rw [hT', List.drop_append_of_le_length (by omega), List.map_append]
    have e3 : runB H0 T (T.length / 64) = runB H0 T' (T.length / 64) := by rw [hT', runB_append _ _ _ _ (by omega)]
    rw [e1, e2, e3]
    refine TC.loopF (ι := Nat × Option Addr × Nat) [] (fun i => 64 * i.1 ≤ T'.length) (fun i => [(4, some (.slice i.2.1 (T'.length - 64 * i.1) i.2.2))]) (fun i => [SA.blk b3 ((runB H0 T' i.1).map v32).toArray 109, SA.owns 5 1 (.slice i.2.1 (T'.length - 64 * i.1) i.2.2) (T'.length - 64 * i.1) ((T'.drop (64 * i.1)).map v8)]) (fun i => T'.length - 64 * i.1) ((T.length / 64, _, _)) (by show 64 * (T.length / 64) ≤ T'.length; omega) ⟨rfl, trivial⟩ (Pulls.cons pul (Pulls.cons pul Pulls.nil)) ?_
    rintro ⟨q, a2, cap2⟩ hq F' L' rfl hL'
    simp only [List.cons_append, List.nil_append] at hL'
    subst hL'
    dsimp only at hq ⊢
    refine TC.seq ?_
    refine TC.seq ?_
    refine TC.region ?_
    refine TL.val rfl rfl rfl (Y.move rfl rfl) ?_
    refine TL.val rfl rfl rfl (Y.len rfl Try.underlying23 rfl) ?_
    refine TL.val rfl rfl rfl (Y.bin rfl rfl rfl (br_geN (n := 64))) ?_
    refine TL.nil ?_
    refine TQ.next ?_
    refine TC.cond rfl (fun c1 => ?_) (fun c1 => ?_)
    · try simp only [decide_eq_true_eq, decide_eq_false_iff_not, Bool.not_eq_true', Bool.not_eq_false', Bool.and_eq_true, Bool.or_eq_true, Nat.not_lt, Nat.not_le, beq_iff_eq, bne_iff_ne] at c1
      refine TC.know (owns_some inn (by omega)) ?_
      rintro ⟨g2, off2, rfl⟩
      refine TC.skip ?_
      refine TQ.next ?_
      refine TC.block ?_
      refine TC.seq ?_
      refine TC.region ?_
      refine TL.val rfl rfl rfl (Y.move rfl rfl) ?_
      refine TL.eff rfl rfl rfl (X.call rfl Try.func57 (by kernel_rfl) rfl rfl (Fn.pre (block_fn b3 _ _ _ _ (runB H0 T' q) (T'.drop (64 * q)) _ (Reads.owns (e := 5)) (by rw [runB_len]; rfl) (by omega) (by simp) _) (Ent.cons pul (Ent.cons pul Ent.refl)))) ?_
      rintro _ _ ⟨rfl, rfl⟩
      refine TL.nil ?_
      refine TQ.next ?_
      refine TC.region ?_
      refine TL.val rfl rfl rfl (Y.move rfl rfl) ?_
      refine TL.val rfl rfl rfl (Y.sliceLo (k := 64) rfl Try.underlying23 sz5 rfl rfl (by omega)) ?_
      refine TL.val rfl rfl rfl (Y.assign rfl rfl) ?_
      refine TL.nil ?_
      refine TQ.block_normal ?_
      refine TQ.to (Ent.trans (Pull.ent pul) (Ent.dropOwn (k := 64) (by omega))) ?_
      have e4 : T'.length - 64 * q - 64 = T'.length - 64 * (q + 1) := by omega
      have e5 : ((T'.drop (64 * q)).map v8).drop (64 * 1) = (T'.drop (64 * (q + 1))).map v8 := by rw [← List.map_drop, List.drop_drop]; congr 2
      unfold cutV
      rw [e4, e5]
      refine TQ.loopF ((q + 1, _, _)) (by show 64 * (q + 1) ≤ T'.length; omega) (by show T'.length - 64 * (q + 1) < T'.length - 64 * q; omega) ⟨rfl, trivial⟩ (by (repeat first | apply Grow.refl | apply Grow.step | apply Grow.app)) ?_ ?_ ?_
      · kernel_rfl
      · rfl
      · simp only [List.cons_append, List.nil_append]
        exact ett
    · try simp only [decide_eq_true_eq, decide_eq_false_iff_not, Bool.not_eq_true', Bool.not_eq_false', Bool.and_eq_true, Bool.or_eq_true, Nat.not_lt, Nat.not_le, beq_iff_eq, bne_iff_ne] at c1
      refine TC.exit ?_
      refine TQ.then_exit ?_
      refine TQ.then_exit ?_
      refine TQ.block_exit ?_
      refine TQ.block_normal ?_
      refine TQ.next ?_
      refine TC.region ?_
      refine TL.val rfl rfl rfl (Y.bin rfl rfl rfl (br_addN (n := 1) (by omega))) ?_
      refine TL.val rfl rfl rfl (Y.move rfl rfl) ?_
      refine TL.nil ?_
      have hTT : T' = cat (ps.take (k + 1)) := hT'.trans hcat.symm
      obtain rfl : q = T'.length / 64 := by omega
      have e6 : T'.length - 64 * (T'.length / 64) = T'.length % 64 := by omega
      rw [e6]
      subst hTT
      refine TQ.loopF ((k + 1, _, _)) (by omega) (by omega) ⟨rfl, by rw [hcat, List.length_append, UInt64.ofNat_add]; rfl, rfl, trivial⟩ (by (repeat first | apply Grow.refl | apply Grow.step | apply Grow.app)) ?_ ?_ ?_
      · kernel_rfl
      · rfl
      · simp only [List.cons_append, List.nil_append]
        exact ett
  · try simp only [decide_eq_true_eq, decide_eq_false_iff_not, Bool.not_eq_true', Bool.not_eq_false', Bool.and_eq_true, Bool.or_eq_true, Nat.not_lt, Nat.not_le, beq_iff_eq, bne_iff_ne] at c0
    refine TC.exit ?_
    refine TQ.then_exit ?_
    refine TQ.then_exit ?_
    refine TQ.block_exit ?_
    refine TQ.next ?_
    refine TC.seq ?_
    obtain rfl : k = m := by omega
    have eT : ps.take k = ps := List.take_of_length_le (by omega)
    rw [eT]
    generalize cat ps = T at hlen ⊢
    have ez : zeros T.length = (119 - T.length % 64) % 64 := rfl
    refine TC.region ?_
    refine TL.val rfl rfl rfl (Y.move rfl rfl) ?_
    refine TL.eff rfl rfl rfl (X.lit rfl el23 rfl rfl rfl (by decide) rfl) ?_
    rintro _ _ ⟨g35, rfl, rfl⟩
    refine TL.eff rfl rfl rfl (X.appendS rfl el23 rfl pul rfl (by first | exact Src.owns Try.underlying23 inn | exact Src.rds Try.underlying23 inn | exact Src.reads (by assumption) Try.underlying23 inn) (by simp only [maxLen]; omega) (by omega)) ?_
    rintro _ _ ⟨a36, c36, rfl, rfl⟩
    refine TL.val rfl rfl rfl (Y.assign rfl rfl) ?_
    refine TL.nil ?_
    refine TQ.next ?_
    refine TC.seq ?_
    refine TC.block ?_
    rw [rz_0]
    refine TC.loopF (ι := Nat × Option Addr × Nat) [] (fun i => i.1 ≤ zeros T.length) (fun i => [(4, some (.slice i.2.1 (T.length % 64 + 1 + i.1) i.2.2))]) (fun i => [SA.owns 5 1 (.slice i.2.1 (T.length % 64 + 1 + i.1) i.2.2) (T.length % 64 + 1 + i.1) ((rz T i.1).map v8)]) (fun i => zeros T.length - i.1) ((0, _, _)) (Nat.zero_le _) ⟨rfl, trivial⟩ (Pulls.cons pul Pulls.nil) ?_
    rintro ⟨j, a4, cap4⟩ hj F' L' rfl hL'
    simp only [List.cons_append, List.nil_append] at hL'
    subst hL'
    dsimp only at hj ⊢
    refine TC.seq ?_
    refine TC.seq ?_
    refine TC.region ?_
    refine TL.val rfl rfl rfl (Y.move rfl rfl) ?_
    refine TL.val rfl rfl rfl (Y.len rfl Try.underlying23 rfl) ?_
    refine TL.val rfl rfl rfl (Y.bin rfl rfl rfl (br_remN (n := 64) (by omega))) ?_
    refine TL.val rfl rfl rfl (Y.bin rfl rfl rfl (br_neN (n := 56))) ?_
    refine TL.nil ?_
    refine TQ.next ?_
    refine TC.cond rfl (fun c2 => ?_) (fun c2 => ?_)
    · try simp only [decide_eq_true_eq, decide_eq_false_iff_not, Bool.not_eq_true', Bool.not_eq_false', Bool.and_eq_true, Bool.or_eq_true, Nat.not_lt, Nat.not_le, beq_iff_eq, bne_iff_ne] at c2
      have hj2 : j < zeros T.length := by omega
      refine TC.skip ?_
      refine TQ.next ?_
      refine TC.block ?_
      refine TC.region ?_
      refine TL.val rfl rfl rfl (Y.move rfl rfl) ?_
      refine TL.eff rfl rfl rfl (X.lit rfl el23 rfl rfl rfl (by decide) rfl) ?_
      rintro _ _ ⟨g42, rfl, rfl⟩
      refine TL.eff rfl rfl rfl (X.appendS rfl el23 rfl pul rfl (by first | exact Src.owns Try.underlying23 inn | exact Src.rds Try.underlying23 inn | exact Src.reads (by assumption) Try.underlying23 inn) (by simp only [maxLen]; omega) (by omega)) ?_
      rintro _ _ ⟨a43, c43, rfl, rfl⟩
      refine TL.val rfl rfl rfl (Y.assign rfl rfl) ?_
      refine TL.nil ?_
      refine TQ.block_normal ?_
      rw [rz_s]
      refine TQ.loopF ((j + 1, _, _)) (by show j + 1 ≤ zeros T.length; omega) (by show zeros T.length - (j + 1) < zeros T.length - j; omega) ⟨rfl, trivial⟩ (by (repeat first | apply Grow.refl | apply Grow.step | apply Grow.app)) ?_ ?_ ?_
      · kernel_rfl
      · rfl
      · simp only [List.cons_append, List.nil_append]
        exact ett
    · try simp only [decide_eq_true_eq, decide_eq_false_iff_not, Bool.not_eq_true', Bool.not_eq_false', Bool.and_eq_true, Bool.or_eq_true, Nat.not_lt, Nat.not_le, beq_iff_eq, bne_iff_ne] at c2
      refine TC.exit ?_
      refine TQ.then_exit ?_
      refine TQ.then_exit ?_
      refine TQ.block_exit ?_
      refine TQ.next ?_
      refine TC.seq ?_
      refine TC.seq ?_
      obtain rfl : j = zeros T.length := by omega
      rw [rl_0]
      refine TC.region ?_
      refine TL.val rfl rfl rfl (Y.move rfl rfl) ?_
      refine TL.nil ?_
      refine TQ.next ?_
      refine TC.block ?_
      refine TC.loopF (ι := Nat × Option Addr × Nat) [] (fun i => i.1 ≤ 8) (fun i => [(44, some (vN i.1)), (4, some (.slice i.2.1 (T.length % 64 + 1 + zeros T.length + i.1) i.2.2))]) (fun i => [SA.owns 5 1 (.slice i.2.1 (T.length % 64 + 1 + zeros T.length + i.1) i.2.2) (T.length % 64 + 1 + zeros T.length + i.1) ((rl T i.1).map v8)]) (fun i => 8 - i.1) ((0, _, _)) (by omega) ⟨rfl, rfl, trivial⟩ (Pulls.cons pul Pulls.nil) ?_
      rintro ⟨j, a6, cap6⟩ hj6 F' L' rfl hL'
      simp only [List.cons_append, List.nil_append] at hL'
      subst hL'
      dsimp only at hj6 ⊢
      refine TC.seq ?_
      refine TC.region ?_
      refine TL.val rfl rfl rfl (Y.bin rfl rfl rfl (br_ltN (n := 8))) ?_
      refine TL.nil ?_
      refine TQ.next ?_
      refine TC.seq ?_
      refine TC.cond rfl (fun c3 => ?_) (fun c3 => ?_)
      · try simp only [decide_eq_true_eq, decide_eq_false_iff_not, Bool.not_eq_true', Bool.not_eq_false', Bool.and_eq_true, Bool.or_eq_true, Nat.not_lt, Nat.not_le, beq_iff_eq, bne_iff_ne] at c3
        refine TC.skip ?_
        refine TQ.next ?_
        refine TC.seq ?_
        refine TC.block ?_
        refine TC.seq ?_
        refine TC.region ?_
        refine TL.val rfl rfl rfl (Y.move rfl rfl) ?_
        refine TL.val rfl rfl rfl (Y.assign rfl rfl) ?_
        refine TL.nil ?_
        refine TQ.next ?_
        refine TC.region ?_
        refine TL.val rfl rfl rfl (Y.move rfl rfl) ?_
        refine TL.val rfl rfl rfl (Y.move rfl rfl) ?_
        refine TL.val rfl rfl rfl (Y.bin rfl rfl rfl (br_mul64 (y := 8))) ?_
        refine TL.val rfl rfl rfl (Y.move rfl rfl) ?_
        refine TL.val rfl rfl rfl (Y.bin rfl rfl rfl (br_mulN (m := 8) (by omega))) ?_
        refine TL.val rfl rfl rfl (Y.bin rfl rfl rfl (br_subN (m := 56) (by omega) (by omega))) ?_
        refine TL.val rfl rfl rfl (Y.bin rfl rfl rfl (br_shr64)) ?_
        refine TL.val rfl rfl rfl (Y.conv rfl Try.underlying32 Try.underlying5 rfl (cv_64_8)) ?_
        refine TL.eff rfl rfl rfl (X.lit rfl el23 rfl rfl rfl (by decide) rfl) ?_
        rintro _ _ ⟨g55, rfl, rfl⟩
        refine TL.eff rfl rfl rfl (X.appendS rfl el23 rfl pul rfl (by first | exact Src.owns Try.underlying23 inn | exact Src.rds Try.underlying23 inn | exact Src.reads (by assumption) Try.underlying23 inn) (by simp only [maxLen]; omega) (by omega)) ?_
        rintro _ _ ⟨a56, c56, rfl, rfl⟩
        refine TL.val rfl rfl rfl (Y.assign rfl rfl) ?_
        refine TL.nil ?_
        refine TQ.block_normal ?_
        refine TQ.next ?_
        refine TC.region ?_
        refine TL.val rfl rfl rfl (Y.bin rfl rfl rfl (br_addN (n := 1) (by omega))) ?_
        refine TL.val rfl rfl rfl (Y.move rfl rfl) ?_
        refine TL.nil ?_
        rw [rl_s]
        refine TQ.loopF ((j + 1, _, _)) (by show j + 1 ≤ 8; omega) (by show 8 - (j + 1) < 8 - j; omega) ⟨rfl, rfl, trivial⟩ (by (repeat first | apply Grow.refl | apply Grow.step | apply Grow.app)) ?_ ?_ ?_
        · kernel_rfl
        · rfl
        · simp only [List.cons_append, List.nil_append]
          exact ett
      · try simp only [decide_eq_true_eq, decide_eq_false_iff_not, Bool.not_eq_true', Bool.not_eq_false', Bool.and_eq_true, Bool.or_eq_true, Nat.not_lt, Nat.not_le, beq_iff_eq, bne_iff_ne] at c3
        refine TC.exit ?_
        refine TQ.then_exit ?_
        refine TQ.then_exit ?_
        refine TQ.block_exit ?_
        refine TQ.next ?_
        refine TC.seq ?_
        refine TC.block ?_
        obtain rfl : j = 8 := by omega
        have hMl := padded_len T
        have hMm := padded_mod T
        have e4 : T.length % 64 + 1 + zeros T.length + 8 = (padded T).length - 64 * (T.length / 64) := by omega
        have e6 : runB H0 T (T.length / 64) = runB H0 (padded T) (T.length / 64) := by rw [padded, runB_append _ _ _ _ (by omega)]
        rw [e4, rl_8, e6]
        refine TC.loopF (ι := Nat × Option Addr × Nat) [] (fun i => 64 * i.1 ≤ (padded T).length) (fun i => [(4, some (.slice i.2.1 ((padded T).length - 64 * i.1) i.2.2))]) (fun i => [SA.blk b3 ((runB H0 (padded T) i.1).map v32).toArray 109, SA.owns 5 1 (.slice i.2.1 ((padded T).length - 64 * i.1) i.2.2) ((padded T).length - 64 * i.1) (((padded T).drop (64 * i.1)).map v8)]) (fun i => (padded T).length - 64 * i.1) ((T.length / 64, _, _)) (by show 64 * (T.length / 64) ≤ (padded T).length; omega) ⟨rfl, trivial⟩ (Pulls.cons pul (Pulls.cons pul Pulls.nil)) ?_
        rintro ⟨q, a2, cap2⟩ hq F' L' rfl hL'
        simp only [List.cons_append, List.nil_append] at hL'
        subst hL'
        dsimp only at hq ⊢
        refine TC.seq ?_
        refine TC.seq ?_
        refine TC.region ?_
        refine TL.val rfl rfl rfl (Y.move rfl rfl) ?_
        refine TL.val rfl rfl rfl (Y.len rfl Try.underlying23 rfl) ?_
        refine TL.val rfl rfl rfl (Y.bin rfl rfl rfl (br_gtN (n := 0))) ?_
        refine TL.nil ?_
        refine TQ.next ?_
        refine TC.cond rfl (fun c4 => ?_) (fun c4 => ?_)
        · try simp only [decide_eq_true_eq, decide_eq_false_iff_not, Bool.not_eq_true', Bool.not_eq_false', Bool.and_eq_true, Bool.or_eq_true, Nat.not_lt, Nat.not_le, beq_iff_eq, bne_iff_ne] at c4
          refine TC.know (owns_some inn (by omega)) ?_
          rintro ⟨g2, off2, rfl⟩
          refine TC.skip ?_
          refine TQ.next ?_
          refine TC.seq ?_
          refine TC.block ?_
          refine TC.region ?_
          refine TL.val rfl rfl rfl (Y.move rfl rfl) ?_
          refine TL.eff rfl rfl rfl (X.call rfl Try.func57 (by kernel_rfl) rfl rfl (Fn.pre (block_fn b3 _ _ _ _ (runB H0 (padded T) q) ((padded T).drop (64 * q)) _ (Reads.owns (e := 5)) (by rw [runB_len]; rfl) (by omega) (by simp) _) (Ent.cons pul (Ent.cons pul Ent.refl)))) ?_
          rintro _ _ ⟨rfl, rfl⟩
          refine TL.nil ?_
          refine TQ.block_normal ?_
          refine TQ.next ?_
          refine TC.region ?_
          refine TL.val rfl rfl rfl (Y.move rfl rfl) ?_
          refine TL.val rfl rfl rfl (Y.sliceLo (k := 64) rfl Try.underlying23 sz5 rfl rfl (by omega)) ?_
          refine TL.val rfl rfl rfl (Y.assign rfl rfl) ?_
          refine TL.nil ?_
          refine TQ.to (Ent.trans (Pull.ent pul) (Ent.dropOwn (k := 64) (by omega))) ?_
          have e4 : (padded T).length - 64 * q - 64 = (padded T).length - 64 * (q + 1) := by omega
          have e5 : (((padded T).drop (64 * q)).map v8).drop (64 * 1) = ((padded T).drop (64 * (q + 1))).map v8 := by rw [← List.map_drop, List.drop_drop]; congr 2
          unfold cutV
          rw [e4, e5]
          refine TQ.loopF ((q + 1, _, _)) (by show 64 * (q + 1) ≤ (padded T).length; omega) (by show (padded T).length - 64 * (q + 1) < (padded T).length - 64 * q; omega) ⟨rfl, trivial⟩ (by (repeat first | apply Grow.refl | apply Grow.step | apply Grow.app)) ?_ ?_ ?_
          · kernel_rfl
          · rfl
          · simp only [List.cons_append, List.nil_append]
            exact ett
        · try simp only [decide_eq_true_eq, decide_eq_false_iff_not, Bool.not_eq_true', Bool.not_eq_false', Bool.and_eq_true, Bool.or_eq_true, Nat.not_lt, Nat.not_le, beq_iff_eq, bne_iff_ne] at c4
          refine TC.exit ?_
          refine TQ.then_exit ?_
          refine TQ.then_exit ?_
          refine TQ.block_exit ?_
          refine TQ.next ?_
          refine TC.seq ?_
          obtain rfl : q = (padded T).length / 64 := by omega
          have hrl := runB_len H0 (padded T) ((padded T).length / 64)
          replace hrl : (runB H0 (padded T) ((padded T).length / 64)).length = 5 := hrl
          generalize hH : runB H0 (padded T) ((padded T).length / 64) = H at hrl ⊢
          refine TC.region ?_
          refine TL.eff rfl rfl rfl (X.alloc rfl zc101) ?_
          rintro _ _ ⟨b9, rfl, rfl⟩
          refine TL.nil ?_
          refine TQ.next ?_
          refine TC.seq ?_
          refine TC.seq ?_
          refine TC.region ?_
          refine TL.val rfl rfl rfl (Y.move rfl rfl) ?_
          refine TL.nil ?_
          refine TQ.next ?_
          refine TC.block ?_
          refine TC.loopF (ι := Nat) [] (fun k => k ≤ 20) (fun k => [(65, some (vN k))]) (fun k => [SA.blk b9 ((outN H k).map v8).toArray 101]) (fun k => 20 - k) (0) (by omega) ⟨rfl, trivial⟩ (Pulls.cons pul Pulls.nil) ?_
          rintro k' hk' F' L' rfl hL'
          simp only [List.cons_append, List.nil_append] at hL'
          subst hL'
          have hol := outN_len H k'
          refine TC.seq ?_
          refine TC.region ?_
          refine TL.val rfl rfl rfl (Y.bin rfl rfl rfl (br_ltN (n := 20))) ?_
          refine TL.nil ?_
          refine TQ.next ?_
          refine TC.seq ?_
          refine TC.cond rfl (fun c5 => ?_) (fun c5 => ?_)
          · try simp only [decide_eq_true_eq, decide_eq_false_iff_not, Bool.not_eq_true', Bool.not_eq_false', Bool.and_eq_true, Bool.or_eq_true, Nat.not_lt, Nat.not_le, beq_iff_eq, bne_iff_ne] at c5
            refine TC.skip ?_
            refine TQ.next ?_
            refine TC.seq ?_
            refine TC.block ?_
            refine TC.seq ?_
            refine TC.region ?_
            refine TL.val rfl rfl rfl (Y.move rfl rfl) ?_
            refine TL.val rfl rfl rfl (Y.assign rfl rfl) ?_
            refine TL.nil ?_
            refine TQ.next ?_
            refine TC.region ?_
            refine TL.val rfl rfl rfl (Y.move rfl rfl) ?_
            refine TL.val rfl rfl rfl (Y.move rfl rfl) ?_
            refine TL.val rfl rfl rfl (Y.bin rfl rfl rfl (br_quoN (n := 4) (by omega) (by omega))) ?_
            refine TL.val rfl rfl rfl (Y.indexArr rfl ar109 rfl rfl (by omega) nqq) ?_
            refine TL.val rfl rfl rfl (Y.load rfl sc22 rfl ceo32) ?_
            refine TL.val rfl rfl rfl (Y.move rfl rfl) ?_
            refine TL.val rfl rfl rfl (Y.bin rfl rfl rfl (br_remN (n := 4) (by omega))) ?_
            refine TL.val rfl rfl rfl (Y.bin rfl rfl rfl (br_mulN (m := 8) (by omega))) ?_
            refine TL.val rfl rfl rfl (Y.bin rfl rfl rfl (br_subN (m := 24) (by omega) (by omega))) ?_
            refine TL.val rfl rfl rfl (Y.bin rfl rfl rfl (br_shr32)) ?_
            refine TL.val rfl rfl rfl (Y.conv rfl Try.underlying22 Try.underlying5 rfl (cv_32_8)) ?_
            refine TL.val rfl rfl rfl (Y.indexArr rfl ar101 rfl rfl (by omega) nqq) ?_
            refine TL.eff0 rfl rfl (by first | exact X.store rfl sz5 rfl rfl rfl pul lnn (by first | exact setM | rfl) | exact X.storeOwn rfl sz5 rfl (Nat.zero_add _).symm rfl rfl pul lnn (by first | exact setML | rfl) | exact X.storeOwn rfl sz5 rfl rfl rfl rfl pul lnn (by first | exact setML | rfl)) ?_
            rintro _ _ rfl
            refine TL.nil ?_
            refine TQ.block_normal ?_
            refine TQ.next ?_
            refine TC.region ?_
            refine TL.val rfl rfl rfl (Y.bin rfl rfl rfl (br_addN (n := 1) (by omega))) ?_
            refine TL.val rfl rfl rfl (Y.move rfl rfl) ?_
            refine TL.nil ?_
            skip
            refine TQ.loopF (k' + 1) (by omega) (by omega) ⟨rfl, trivial⟩ (by (repeat first | apply Grow.refl | apply Grow.step | apply Grow.app)) ?_ ?_ ?_
            · kernel_rfl
            · rfl
            · simp only [List.cons_append, List.nil_append]
              exact ett
          · try simp only [decide_eq_true_eq, decide_eq_false_iff_not, Bool.not_eq_true', Bool.not_eq_false', Bool.and_eq_true, Bool.or_eq_true, Nat.not_lt, Nat.not_le, beq_iff_eq, bne_iff_ne] at c5
            refine TC.exit ?_
            refine TQ.then_exit ?_
            refine TQ.then_exit ?_
            refine TQ.block_exit ?_
            refine TQ.next ?_
            refine TC.seq ?_
            obtain rfl : k' = 20 := by omega
            have hol := outN_len H 20
            refine TC.region ?_
            refine TL.val rfl rfl rfl (Y.loadAgg rfl ag101 rfl (Cels.full inn) (by ((try simp only [List.length_map, List.length_set, List.length_replicate]); omega))) ?_
            refine TL.eff0 rfl rfl (by first | exact X.storeAll rfl sz101 szz rfl rfl (by simp [Value.oneCell']) pul szz | exact X.storeAgg rfl sz101 szz rfl rfl (by simp [Value.oneCell']) pul szz (writeM (by ((try simp only [List.length_set, List.length_map, List.length_append, List.length_replicate]); omega)))) ?_
            rintro _ _ rfl
            refine TL.nil ?_
            refine TQ.next ?_
            refine TC.ret ?_
            have hsha : sha T = outN H 20 := by rw [sha, hH]
            rw [← hsha]
            refine TQ.retE (resC rfl ag101 rfl (Cels.full inn) szz) (⟨rfl, rfl⟩) ?_
            exact ett
end sha
end Go.Proofs.Ytomplpdeeomehaa
