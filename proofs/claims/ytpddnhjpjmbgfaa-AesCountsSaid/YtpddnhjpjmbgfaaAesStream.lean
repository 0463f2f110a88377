/- AES: the stream of the counter mode, as the program makes it. -/
import Derived.Test.YtpddnhjpjmbgfaaAesLaws
namespace Go.Proofs.Ytpddnhjpjmbgfaa
set_option linter.unusedVariables false
set_option linter.unusedSimpArgs false
open Go.RowKit
namespace aes
namespace FxAesStream
set_option maxRecDepth 100000
theorem ag22 : Program.aggN Try.prog 22 = some 16 := by kernel_rfl
theorem ar22 : Program.arrI Try.prog 22 = some (16, 1) := by kernel_rfl
theorem el27 : Elt Try.prog 27 5 1 1 (.int .u8 0) := ⟨Try.underlying27, by kernel_rfl, rfl, by decide, by simp [Value.cells, Value.oneCell']⟩
theorem sc5 : Program.isSc Try.prog 5 = true := by kernel_rfl
theorem sz22 : (Try.prog.info? 22).map (·.size) = some 16 := by kernel_rfl
theorem sz5 : (Try.prog.info? 5).map (·.size) = some 1 := by kernel_rfl
theorem zc22 : Program.zeroC Try.prog 22 = some ((List.replicate 16 (0 : UInt8)).map v8).toArray := by kernel_rfl
end FxAesStream
open FxAesStream
def setS (s : St16) (k : Nat) (v : UInt8) : St16 := fun i => if i = k then v else s i
theorem tab_setS (s : St16) (k : Nat) (v : UInt8) : (tab 16 s).set k v = tab 16 (setS s k v) := tab_set
theorem setS_at (s : St16) (k : Nat) (v : UInt8) : setS s k v k = v := if_pos rfl
def incF (s : St16) : Nat → St16
  | 0 => s
  | k + 1 => if (s k + 1 != 0) = true then setS s k (s k + 1) else incF (setS s k (s k + 1)) k
def inc (s : St16) : St16 := incF s 16
def incN (s : St16) : Nat → St16
  | 0 => s
  | j + 1 => inc (incN s j)
def strJ (key : List UInt8) (s : St16) : Nat → List UInt8
  | 0 => []
  | j + 1 => strJ key s j ++ ct key (incN s j)
theorem strJ_len (key : List UInt8) (s : St16) : ∀ j, (strJ key s j).length = 16 * j
  | 0 => rfl
  | j + 1 => by rw [strJ, List.length_append, strJ_len key s j, show (ct key (incN s j)).length = 16 from tab_len]; omega
def strm (key : List UInt8) (s : St16) (n : Nat) : List UInt8 := (strJ key s ((n + 15) / 16)).take n
theorem strm_len (key : List UInt8) (s : St16) (n : Nat) : (strm key s n).length = n := by
  rw [strm, List.length_take, strJ_len]; omega
theorem made0' : (madeCells (Value.int .u8 0).cells (0 * 1)).toList = (([] : List UInt8)).map v8 := by
  rw [Nat.zero_mul]; simp [Value.cells, madeCells_rep]
theorem Stream_lo (k s : Array Value) (m : Int) (hm : m < 1) (L : List SA) :
    Fn Try.prog 10 [.agg k, .agg s, .int .i64 m] L (fun v L' => v = .slice none 0 0 ∧ L' = L) := by
  refine Fn.of (N := 49) Try.func10 rfl rfl ?_
  refine TC.seq ?_
  refine TC.region ?_
  refine TL.eff rfl rfl rfl (X.boxA rfl rfl) ?_
  rintro _ _ ⟨b3, rfl, rfl⟩
  refine TL.eff rfl rfl rfl (X.boxA rfl rfl) ?_
  rintro _ _ ⟨b4, rfl, rfl⟩
  refine TL.val rfl rfl rfl (Y.assign rfl rfl) ?_
  refine TL.nil ?_
  refine TQ.next ?_
  refine TC.seq ?_
  refine TC.seq ?_
  refine TC.region ?_
  refine TL.val rfl rfl rfl (Y.move rfl rfl) ?_
  refine TL.val rfl rfl rfl (Y.bin rfl rfl rfl (br_ltI (n := 1))) ?_
  rw [show decide (m < 1) = true from decide_eq_true hm]
  refine TL.val rfl rfl rfl (Y.move rfl rfl) ?_
  refine TL.not rfl rfl rfl ?_
  refine TL.not rfl rfl rfl ?_
  refine TL.val rfl rfl rfl (Y.pick_t rfl rfl rfl) ?_
  refine TL.nil ?_
  refine TQ.next ?_
  refine TC.cond_t rfl ?_
  refine TC.seq ?_
  refine TC.region ?_
  refine TL.val rfl rfl rfl (Y.assign rfl rfl) ?_
  refine TL.nil ?_
  refine TQ.next ?_
  refine TC.ret ?_
  refine TQ.then_ret ?_
  refine TQ.retE (res1 rfl rfl) (⟨rfl, rfl⟩) ?_
  exact (by (repeat first | (with_reducible exact Ent.refl) | (with_reducible exact Ent.nil) | refine Ent.cons (by first | (with_reducible (repeat first | exact Pull.here | apply Pull.there); done) | (repeat first | exact Pull.here | apply Pull.there)) ?_ | refine Ent.skip ?_))
theorem Stream_hi (k s : Array Value) (m : Int) (hm : 65536 < m) (L : List SA) :
    Fn Try.prog 10 [.agg k, .agg s, .int .i64 m] L (fun v L' => v = .slice none 0 0 ∧ L' = L) := by
  refine Fn.of (N := 49) Try.func10 rfl rfl ?_
  refine TC.seq ?_
  refine TC.region ?_
  refine TL.eff rfl rfl rfl (X.boxA rfl rfl) ?_
  rintro _ _ ⟨b3, rfl, rfl⟩
  refine TL.eff rfl rfl rfl (X.boxA rfl rfl) ?_
  rintro _ _ ⟨b4, rfl, rfl⟩
  refine TL.val rfl rfl rfl (Y.assign rfl rfl) ?_
  refine TL.nil ?_
  refine TQ.next ?_
  refine TC.seq ?_
  refine TC.seq ?_
  refine TC.region ?_
  refine TL.val rfl rfl rfl (Y.move rfl rfl) ?_
  refine TL.val rfl rfl rfl (Y.bin rfl rfl rfl (br_ltI (n := 1))) ?_
  rw [show decide (m < 1) = false from decide_eq_false (by omega)]
  refine TL.val rfl rfl rfl (Y.move rfl rfl) ?_
  refine TL.valG rfl rfl rfl (Y.move rfl rfl) ?_
  refine TL.valG rfl rfl rfl (Y.bin rfl rfl rfl (br_gtI (n := 65536))) ?_
  rw [show decide (65536 < m) = true from decide_eq_true hm]
  refine TL.val rfl rfl rfl (Y.pick_f rfl rfl rfl) ?_
  refine TL.nil ?_
  refine TQ.next ?_
  refine TC.cond_t rfl ?_
  refine TC.seq ?_
  refine TC.region ?_
  refine TL.val rfl rfl rfl (Y.assign rfl rfl) ?_
  refine TL.nil ?_
  refine TQ.next ?_
  refine TC.ret ?_
  refine TQ.then_ret ?_
  refine TQ.retE (res1 rfl rfl) (⟨rfl, rfl⟩) ?_
  exact (by (repeat first | (with_reducible exact Ent.refl) | (with_reducible exact Ent.nil) | refine Ent.cons (by first | (with_reducible (repeat first | exact Pull.here | apply Pull.there); done) | (repeat first | exact Pull.here | apply Pull.there)) ?_ | refine Ent.skip ?_))
set_option maxHeartbeats 1000000 in
theorem Stream_ok (key : List UInt8) (hk : key.length = 16) (s : St16) (n : Nat) (h1 : 1 ≤ n) (h2 : n ≤ 65536) (L : List SA) :
    Fn Try.prog 10 [.agg (key.map v8).toArray, .agg ((tab 16 s).map v8).toArray, vN n] L (fun v L' => ∃ a, v = .slice a n n ∧ L' = SA.owns 5 1 (.slice a n n) n ((strm key s n).map v8) :: L) := by
  refine Fn.of (N := 49) Try.func10 rfl rfl ?_
  refine TC.seq ?_
  refine TC.region ?_
  refine TL.eff rfl rfl rfl (X.boxA rfl rfl) ?_
  rintro _ _ ⟨b3, rfl, rfl⟩
  refine TL.eff rfl rfl rfl (X.boxA rfl rfl) ?_
  rintro _ _ ⟨b4, rfl, rfl⟩
  refine TL.val rfl rfl rfl (Y.assign rfl rfl) ?_
  refine TL.nil ?_
  refine TQ.next ?_
  refine TC.seq ?_
  refine TC.seq ?_
  refine TC.region ?_
  refine TL.val rfl rfl rfl (Y.move rfl rfl) ?_
  refine TL.val rfl rfl rfl (Y.bin rfl rfl rfl (br_ltN (n := 1))) ?_
  rw [show decide (n < 1) = false from decide_eq_false (by omega)]
  refine TL.val rfl rfl rfl (Y.move rfl rfl) ?_
  refine TL.valG rfl rfl rfl (Y.move rfl rfl) ?_
  refine TL.valG rfl rfl rfl (Y.bin rfl rfl rfl (br_gtN (n := 65536))) ?_
  rw [show decide (65536 < n) = false from decide_eq_false (by omega)]
  refine TL.val rfl rfl rfl (Y.pick_f rfl rfl rfl) ?_
  refine TL.nil ?_
  refine TQ.next ?_
  refine TC.cond_f rfl ?_
  refine TC.skip ?_
  refine TQ.next ?_
  refine TC.seq ?_
  refine TC.region ?_
  refine TL.val rfl rfl rfl (Y.loadAgg rfl ag22 rfl (Cels.full (by with_reducible (repeat first | exact In.here | apply In.there))) (by ((try simp only [List.length_map, List.length_set, List.length_replicate]); omega))) ?_
  refine TL.eff rfl rfl rfl (X.call rfl Try.func12 (by kernel_rfl) rfl rfl (expand_fn key hk _)) ?_
  rintro _ _ ⟨b7, rfl, rfl⟩
  refine TL.val rfl rfl rfl (Y.assign rfl rfl) ?_
  refine TL.nil ?_
  refine TQ.next ?_
  refine TC.seq ?_
  refine TC.region ?_
  refine TL.val rfl rfl rfl (Y.move rfl rfl) ?_
  refine TL.val rfl rfl rfl (Y.bin rfl rfl rfl (br_addN (n := 15) (by omega))) ?_
  refine TL.eff rfl rfl rfl (X.makeSlice (n := 0) (c := n + 15) rfl (by exact el27) rfl rfl (by omega) (by omega) (by simp only [maxLen]; omega)) ?_
  rintro _ _ ⟨g21, rfl, rfl⟩
  refine TL.val rfl rfl rfl (Y.assign rfl rfl) ?_
  refine TL.nil ?_
  refine TQ.next ?_
  refine TC.seq ?_
  refine TC.block ?_
  refine TC.loopF (ι := Nat × Option Addr × Nat) [] (fun i => 16 * i.1 < n + 16) (fun i => [(8, some (.slice i.2.1 (16 * i.1) i.2.2))]) (fun i => [SA.owns 5 1 (.slice i.2.1 (16 * i.1) i.2.2) (16 * i.1) ((strJ key s i.1).map v8), SA.blk b4 ((tab 16 (incN s i.1)).map v8).toArray 22]) (fun i => n + 16 - 16 * i.1) ((0, some ⟨g21, 0, none⟩, n + 15)) (by omega) ⟨rfl, trivial⟩ (by rw [made0']; exact Pulls.cons (by first | (with_reducible (repeat first | exact Pull.here | apply Pull.there); done) | (repeat first | exact Pull.here | apply Pull.there)) (Pulls.cons (by first | (with_reducible (repeat first | exact Pull.here | apply Pull.there); done) | (repeat first | exact Pull.here | apply Pull.there)) Pulls.nil)) ?_
  rintro ⟨j, sa, cap⟩ hj F' L' rfl hL'
  simp only [List.cons_append, List.nil_append] at hL'
  subst hL'
  simp only at hj ⊢
  generalize hS : incN s j = S
  have hsl : (tab 16 S).length = 16 := tab_len
  have hcl : (ct key S).length = 16 := tab_len
  refine TC.seq ?_
  refine TC.seq ?_
  refine TC.region ?_
  refine TL.val rfl rfl rfl (Y.move rfl rfl) ?_
  refine TL.val rfl rfl rfl (Y.len rfl Try.underlying27 rfl) ?_
  refine TL.val rfl rfl rfl (Y.move rfl rfl) ?_
  refine TL.val rfl rfl rfl (Y.bin rfl rfl rfl (br_ltN)) ?_
  refine TL.nil ?_
  refine TQ.next ?_
  refine TC.cond rfl (fun c0 => ?_) (fun c0 => ?_)
  · try simp only [decide_eq_true_eq, decide_eq_false_iff_not, Bool.not_eq_true', Bool.not_eq_false', Bool.and_eq_true, Bool.or_eq_true, Nat.not_lt, Nat.not_le, beq_iff_eq, bne_iff_ne] at c0
    refine TC.skip ?_
    refine TQ.next ?_
    refine TC.block ?_
    refine TC.seq ?_
    refine TC.region ?_
    refine TL.val rfl rfl rfl (Y.move rfl rfl) ?_
    refine TL.val rfl rfl rfl (Y.loadAgg rfl ag22 rfl (Cels.full (by with_reducible (repeat first | exact In.here | apply In.there))) (by ((try simp only [List.length_map, List.length_set, List.length_replicate]); omega))) ?_
    refine TL.eff rfl rfl rfl (X.call rfl Try.func13 (by kernel_rfl) rfl rfl (Fn.pre (encrypt_fn key b7 44 S _) (Ent.cons (by first | (with_reducible (repeat first | exact Pull.here | apply Pull.there); done) | (repeat first | exact Pull.here | apply Pull.there)) Ent.refl))) ?_
    rintro _ _ ⟨rfl, rfl⟩
    refine TL.eff rfl rfl rfl (X.alloc rfl zc22) ?_
    rintro _ _ ⟨b9, rfl, rfl⟩
    refine TL.eff0 rfl rfl (by first | exact X.storeAll rfl sz22 (by ((try simp only [List.size_toArray, List.length_set, List.length_map, List.length_append, List.length_replicate, List.length_cons, List.length_nil]); (first | done | omega | (simp [*]; done)))) rfl rfl (by simp [Value.oneCell']) (by first | (with_reducible (repeat first | exact Pull.here | apply Pull.there); done) | (repeat first | exact Pull.here | apply Pull.there)) (by ((try simp only [List.size_toArray, List.length_set, List.length_map, List.length_append, List.length_replicate, List.length_cons, List.length_nil]); (first | done | omega | (simp [*]; done)))) | exact X.storeAgg rfl sz22 (by ((try simp only [List.size_toArray, List.length_set, List.length_map, List.length_append, List.length_replicate, List.length_cons, List.length_nil]); (first | done | omega | (simp [*]; done)))) rfl rfl (by simp [Value.oneCell']) (by first | (with_reducible (repeat first | exact Pull.here | apply Pull.there); done) | (repeat first | exact Pull.here | apply Pull.there)) (by ((try simp only [List.size_toArray, List.length_set, List.length_map, List.length_append, List.length_replicate, List.length_cons, List.length_nil]); (first | done | omega | (simp [*]; done)))) (writeM (by ((try simp only [List.length_set, List.length_map, List.length_append, List.length_replicate]); omega)))) ?_
    rintro _ _ rfl
    refine TL.nil ?_
    refine TQ.next ?_
    refine TC.seq ?_
    refine TC.region ?_
    refine TL.val rfl rfl rfl (Y.move rfl rfl) ?_
    refine TL.val rfl rfl rfl (Y.sliceArr rfl Try.underlying22 sz5 rfl) ?_
    refine TL.eff rfl rfl rfl (X.appendS rfl el27 rfl (by first | (with_reducible (repeat first | exact Pull.here | apply Pull.there); done) | (repeat first | exact Pull.here | apply Pull.there)) rfl (Src.blk8 (l := tab 16 (rnds key S 10)) Try.underlying27 (by with_reducible (repeat first | exact In.here | apply In.there)) hcl (by decide)) (by simp only [maxLen]; omega) (by omega)) ?_
    rintro _ _ ⟨a31, c31, rfl, rfl⟩
    refine TL.val rfl rfl rfl (Y.assign rfl rfl) ?_
    refine TL.nil ?_
    refine TQ.next ?_
    refine TC.seq ?_
    refine TC.region ?_
    refine TL.val rfl rfl rfl (Y.assign rfl rfl) ?_
    refine TL.nil ?_
    refine TQ.next ?_
    refine TC.block ?_
    refine TC.loopF (ι := Nat × St16) [] (fun i => i.1 ≤ 16 ∧ incF i.2 i.1 = inc S) (fun i => [(10, some (.int .i64 ((i.1 : Int) - 1)))]) (fun i => [SA.blk b4 ((tab 16 i.2).map v8).toArray 22]) (fun i => i.1) ((16, S)) (⟨Nat.le_refl _, rfl⟩) ⟨rfl, trivial⟩ (Pulls.cons (by first | (with_reducible (repeat first | exact Pull.here | apply Pull.there); done) | (repeat first | exact Pull.here | apply Pull.there)) Pulls.nil) ?_
    rintro ⟨k, c⟩ ⟨hk16, hinc⟩ F' L' rfl hL'
    simp only [List.cons_append, List.nil_append] at hL'
    subst hL'
    simp only at hk16 hinc ⊢
    have hcc : (tab 16 c).length = 16 := tab_len
    refine TC.seq ?_
    refine TC.seq ?_
    refine TC.region ?_
    refine TL.val rfl rfl rfl (Y.move rfl rfl) ?_
    refine TL.val rfl rfl rfl (Y.bin rfl rfl rfl (br_geI (n := 0))) ?_
    refine TL.nil ?_
    refine TQ.next ?_
    refine TC.cond rfl (fun c1 => ?_) (fun c1 => ?_)
    · try simp only [decide_eq_true_eq, decide_eq_false_iff_not, Bool.not_eq_true', Bool.not_eq_false', Bool.and_eq_true, Bool.or_eq_true, Nat.not_lt, Nat.not_le, beq_iff_eq, bne_iff_ne] at c1
      obtain ⟨m, rfl⟩ : ∃ m, k = m + 1 := ⟨k - 1, by omega⟩
      rw [show (((m + 1 : Nat) : Int) - 1) = (m : Int) by omega]
      refine TC.skip ?_
      refine TQ.next ?_
      refine TC.seq ?_
      refine TC.block ?_
      refine TC.seq ?_
      refine TC.region ?_
      refine TL.val rfl rfl rfl (Y.move rfl rfl) ?_
      refine TL.val rfl rfl rfl (Y.indexArr rfl ar22 rfl rfl (by omega) (by ((try simp only [Nat.zero_add, Nat.add_zero, Nat.mul_one, Nat.one_mul, Nat.mul_zero, Nat.zero_mul]) <;> rfl))) ?_
      refine TL.val rfl rfl rfl (Y.load rfl sc5 rfl (by first | exact Cel.blk (by with_reducible (repeat first | exact In.here | apply In.there)) (by first | exact getM (d := (0 : UInt8)) (by ((try simp only [List.length_set, List.length_map, List.length_append, List.length_replicate, List.size_toArray]); omega)) | rfl) | exact Cel.rblk (by with_reducible (repeat first | exact In.here | apply In.there)) (by first | exact getM (d := (0 : UInt8)) (by ((try simp only [List.length_set, List.length_map, List.length_append, List.length_replicate, List.size_toArray]); omega)) | rfl) | exact Cel.rds (by with_reducible (repeat first | exact In.here | apply In.there)) (getML (d := (0 : UInt8)) (by ((try simp only [List.length_set, List.length_map, List.length_append, List.length_replicate, List.size_toArray]); omega))) | exact Cel.owns (by with_reducible (repeat first | exact In.here | apply In.there)) (getML (d := (0 : UInt8)) (by ((try simp only [List.length_set, List.length_map, List.length_append, List.length_replicate, List.size_toArray]); omega))) | exact Cel.reads (by assumption) (by with_reducible (repeat first | exact In.here | apply In.there)) (getML (d := (0 : UInt8)) (by ((try simp only [List.length_set, List.length_map, List.length_append, List.length_replicate, List.size_toArray]); omega))))) ?_
      refine TL.val rfl rfl rfl (Y.bin rfl rfl rfl (br_add8 (y := 1))) ?_
      refine TL.val rfl rfl rfl (Y.indexArr rfl ar22 rfl rfl (by omega) (by ((try simp only [Nat.zero_add, Nat.add_zero, Nat.mul_one, Nat.one_mul, Nat.mul_zero, Nat.zero_mul]) <;> rfl))) ?_
      refine TL.eff0 rfl rfl (by first | exact X.store rfl sz5 rfl rfl rfl (by first | (with_reducible (repeat first | exact Pull.here | apply Pull.there); done) | (repeat first | exact Pull.here | apply Pull.there)) (by ((try simp only [List.length_set, List.length_map, List.length_append, List.length_replicate, List.size_toArray]); omega)) (by first | exact setM | rfl) | exact X.storeOwn rfl sz5 rfl (Nat.zero_add _).symm rfl rfl (by first | (with_reducible (repeat first | exact Pull.here | apply Pull.there); done) | (repeat first | exact Pull.here | apply Pull.there)) (by ((try simp only [List.length_set, List.length_map, List.length_append, List.length_replicate, List.size_toArray]); omega)) (by first | exact setML | rfl)) ?_
      rintro _ _ rfl
      refine TL.nil ?_
      rw [tab_getD (show m < 16 by omega), tab_setS]
      have hcs : (tab 16 (setS c m (c m + 1))).length = 16 := tab_len
      refine TQ.next ?_
      refine TC.seq ?_
      refine TC.region ?_
      refine TL.val rfl rfl rfl (Y.move rfl rfl) ?_
      refine TL.val rfl rfl rfl (Y.indexArr rfl ar22 rfl rfl (by omega) (by ((try simp only [Nat.zero_add, Nat.add_zero, Nat.mul_one, Nat.one_mul, Nat.mul_zero, Nat.zero_mul]) <;> rfl))) ?_
      refine TL.val rfl rfl rfl (Y.load rfl sc5 rfl (by first | exact Cel.blk (by with_reducible (repeat first | exact In.here | apply In.there)) (by first | exact getM (d := (0 : UInt8)) (by ((try simp only [List.length_set, List.length_map, List.length_append, List.length_replicate, List.size_toArray]); omega)) | rfl) | exact Cel.rblk (by with_reducible (repeat first | exact In.here | apply In.there)) (by first | exact getM (d := (0 : UInt8)) (by ((try simp only [List.length_set, List.length_map, List.length_append, List.length_replicate, List.size_toArray]); omega)) | rfl) | exact Cel.rds (by with_reducible (repeat first | exact In.here | apply In.there)) (getML (d := (0 : UInt8)) (by ((try simp only [List.length_set, List.length_map, List.length_append, List.length_replicate, List.size_toArray]); omega))) | exact Cel.owns (by with_reducible (repeat first | exact In.here | apply In.there)) (getML (d := (0 : UInt8)) (by ((try simp only [List.length_set, List.length_map, List.length_append, List.length_replicate, List.size_toArray]); omega))) | exact Cel.reads (by assumption) (by with_reducible (repeat first | exact In.here | apply In.there)) (getML (d := (0 : UInt8)) (by ((try simp only [List.length_set, List.length_map, List.length_append, List.length_replicate, List.size_toArray]); omega))))) ?_
      rw [tab_getD (show m < 16 by omega), setS_at]
      refine TL.val rfl rfl rfl (Y.bin rfl rfl rfl (br_ne8 (y := 0))) ?_
      refine TL.nil ?_
      refine TQ.next ?_
      refine TC.cond rfl (fun c2 => ?_) (fun c2 => ?_)
      · skip
        rw [show setS c m (c m + 1) = inc S by rw [← hinc, incF, if_pos c2]]
        refine TC.exit ?_
        refine TQ.block_out rfl ?_
        refine TQ.then_exit ?_
        refine TQ.then_exit ?_
        refine TQ.block_exit ?_
        refine TQ.block_normal ?_
        rw [show 16 * j + 16 = 16 * (j + 1) by omega]
        refine TQ.loopF ((j + 1, a31, c31)) (by simp only; omega) (by simp only; omega) ⟨rfl, trivial⟩ (by (repeat first | exact Grow.refl | apply Grow.step | apply Grow.app)) ?_ ?_ ?_
        · kernel_rfl
        · rfl
        · simp only [List.cons_append, List.nil_append]
          exact (by rw [show (strJ key s (j + 1)).map v8 = (strJ key s j).map v8 ++ (tab 16 (rnds key S 10)).map v8 by rw [strJ, List.map_append, hS], show incN s (j + 1) = inc S by rw [incN, hS]]; exact (by (repeat first | (with_reducible exact Ent.refl) | (with_reducible exact Ent.nil) | refine Ent.cons (by first | (with_reducible (repeat first | exact Pull.here | apply Pull.there); done) | (repeat first | exact Pull.here | apply Pull.there)) ?_ | refine Ent.skip ?_)))
      · skip
        refine TC.skip ?_
        refine TQ.block_normal ?_
        refine TQ.next ?_
        refine TC.region ?_
        refine TL.val rfl rfl rfl (Y.move rfl rfl) ?_
        refine TL.val rfl rfl rfl (Y.bin rfl rfl rfl (br_subI (n := 1) (by omega) (by omega))) ?_
        refine TL.val rfl rfl rfl (Y.assign rfl rfl) ?_
        refine TL.nil ?_
        refine TQ.loopF ((m, setS c m (c m + 1))) (⟨by omega, by rw [← hinc, incF, if_neg (by rw [show (c m + 1 != 0) = false from c2]; decide)]⟩) (by simp only; omega) ⟨rfl, trivial⟩ (by (repeat first | exact Grow.refl | apply Grow.step | apply Grow.app)) ?_ ?_ ?_
        · kernel_rfl
        · rfl
        · simp only [List.cons_append, List.nil_append]
          exact (by (repeat first | (with_reducible exact Ent.refl) | (with_reducible exact Ent.nil) | refine Ent.cons (by first | (with_reducible (repeat first | exact Pull.here | apply Pull.there); done) | (repeat first | exact Pull.here | apply Pull.there)) ?_ | refine Ent.skip ?_))
    · try simp only [decide_eq_true_eq, decide_eq_false_iff_not, Bool.not_eq_true', Bool.not_eq_false', Bool.and_eq_true, Bool.or_eq_true, Nat.not_lt, Nat.not_le, beq_iff_eq, bne_iff_ne] at c1
      obtain rfl : k = 0 := by omega
      obtain rfl : c = inc S := hinc
      refine TC.exit ?_
      refine TQ.then_exit ?_
      refine TQ.then_exit ?_
      refine TQ.block_exit ?_
      refine TQ.block_normal ?_
      rw [show 16 * j + 16 = 16 * (j + 1) by omega]
      refine TQ.loopF ((j + 1, a31, c31)) (by simp only; omega) (by simp only; omega) ⟨rfl, trivial⟩ (by (repeat first | exact Grow.refl | apply Grow.step | apply Grow.app)) ?_ ?_ ?_
      · kernel_rfl
      · rfl
      · simp only [List.cons_append, List.nil_append]
        exact (by rw [show (strJ key s (j + 1)).map v8 = (strJ key s j).map v8 ++ (tab 16 (rnds key S 10)).map v8 by rw [strJ, List.map_append, hS], show incN s (j + 1) = inc S by rw [incN, hS]]; exact (by (repeat first | (with_reducible exact Ent.refl) | (with_reducible exact Ent.nil) | refine Ent.cons (by first | (with_reducible (repeat first | exact Pull.here | apply Pull.there); done) | (repeat first | exact Pull.here | apply Pull.there)) ?_ | refine Ent.skip ?_)))
  · try simp only [decide_eq_true_eq, decide_eq_false_iff_not, Bool.not_eq_true', Bool.not_eq_false', Bool.and_eq_true, Bool.or_eq_true, Nat.not_lt, Nat.not_le, beq_iff_eq, bne_iff_ne] at c0
    refine TC.exit ?_
    refine TQ.then_exit ?_
    refine TQ.then_exit ?_
    refine TQ.block_exit ?_
    refine TQ.next ?_
    refine TC.seq ?_
    refine TC.know (owns_cap (by with_reducible (repeat first | exact In.here | apply In.there))) ?_
    rintro ⟨hcap, hcm, -⟩
    refine TC.region ?_
    refine TL.val rfl rfl rfl (Y.move rfl rfl) ?_
    refine TL.val rfl rfl rfl (Y.move rfl rfl) ?_
    refine TL.val rfl rfl rfl (Y.move rfl rfl) ?_
    refine TL.val rfl rfl rfl (Y.sliceMax (sz := 1) rfl Try.underlying27 (by kernel_rfl) rfl rfl rfl (Nat.le_refl _) (by omega)) ?_
    refine TL.val rfl rfl rfl (Y.assign rfl rfl) ?_
    refine TL.nil ?_
    refine TQ.next ?_
    refine TC.ret ?_
    refine TQ.retE (res1 rfl rfl) (⟨sa, rfl, rfl⟩) ?_
    exact (by refine Ent.trans (Pull.ent (A := SA.owns 5 1 (.slice sa (16 * j) cap) (16 * j) ((strJ key s j).map v8)) (by first | (with_reducible (repeat first | exact Pull.here | apply Pull.there); done) | (repeat first | exact Pull.here | apply Pull.there))) (Ent.trans (Ent.takeOwn3 (k := n) (m := n) (by omega) (Nat.le_refl _) (by omega)) ?_); rw [show ((strJ key s j).map v8).take (n * 1) = (strm key s n).map v8 by rw [strm, Nat.mul_one, ← List.map_take, show (n + 15) / 16 = j by omega]]; exact (by (repeat first | (with_reducible exact Ent.refl) | (with_reducible exact Ent.nil) | refine Ent.cons (by first | (with_reducible (repeat first | exact Pull.here | apply Pull.there); done) | (repeat first | exact Pull.here | apply Pull.there)) ?_ | refine Ent.skip ?_)))
end aes
end Go.Proofs.Ytpddnhjpjmbgfaa
