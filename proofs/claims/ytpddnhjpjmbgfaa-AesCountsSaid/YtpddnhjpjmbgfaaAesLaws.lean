/- AES: the statements on blocks, walked. -/
import Derived.Test.YtpddnhjpjmbgfaaAesKnown
import Derived.Test.YtpddnhjpjmbgfaaHMore
namespace Go.Proofs.Ytpddnhjpjmbgfaa
set_option linter.unusedVariables false
set_option linter.unusedSimpArgs false
open Go.RowKit
namespace aes
namespace FxAesLaws
set_option maxRecDepth 100000
theorem ag22 : Program.aggN Try.prog 22 = some 16 := by kernel_rfl
theorem ar22 : Program.arrI Try.prog 22 = some (16, 1) := by kernel_rfl
theorem eg22 : Program.eqGuardType Try.prog Try.prog.depth 22 = false := by kernel_rfl
theorem sc5 : Program.isSc Try.prog 5 = true := by kernel_rfl
theorem sz22 : (Try.prog.info? 22).map (·.size) = some 16 := by kernel_rfl
theorem sz5 : (Try.prog.info? 5).map (·.size) = some 1 := by kernel_rfl
theorem zc22 : Program.zeroC Try.prog 22 = some ((List.replicate 16 (0 : UInt8)).map v8).toArray := by kernel_rfl
end FxAesLaws
open FxAesLaws
/-- f at the first k of sixteen -/
def kI (f : St16) (k : Nat) : List UInt8 := tab 16 fun i => if i < k then f i else 0
theorem kI_len (f : St16) (k : Nat) : (kI f k).length = 16 := tab_len
theorem kI_0 (f : St16) : List.replicate 16 0 = kI f 0 := by rw [tab_rep]; exact tab_congr fun i _ => by simp
theorem kI_16 (f : St16) : kI f 16 = tab 16 f := tab_congr fun i hi => by rw [if_pos hi]
theorem kI_s (f : St16) (k : Nat) : (kI f k).set k (f k) = kI f (k + 1) := by
  rw [kI, tab_set, kI]; refine tab_congr fun i _ => ?_
  by_cases h : i = k
  · rw [if_pos h, if_pos (by omega), h]
  · rw [if_neg h]
    by_cases h2 : i < k
    · rw [if_pos h2, if_pos (by omega)]
    · rw [if_neg h2, if_neg (by omega)]
def key0 : St16 := fun i => UInt8.ofNat i
theorem key0_kw : tab 16 key0 = kw0 := by decide +kernel
theorem awake_fn (L : List SA) : Fn Try.prog 7 [] L (fun v L' => v = .bool true ∧ L' = L) := by
  have hc : (ct kw0 blk0).length = 16 := tab_len
  refine Fn.of (N := 34) Try.func7 rfl rfl ?_
  refine TC.seq ?_
  refine TC.region ?_
  refine TL.val rfl rfl rfl (Y.assign rfl rfl) ?_
  refine TL.nil ?_
  refine TQ.next ?_
  refine TC.seq ?_
  refine TC.region ?_
  refine TL.eff rfl rfl rfl (X.alloc rfl zc22) ?_
  rintro _ _ ⟨b1, rfl, rfl⟩
  refine TL.eff rfl rfl rfl (X.alloc rfl zc22) ?_
  rintro _ _ ⟨b2, rfl, rfl⟩
  refine TL.nil ?_
  refine TQ.next ?_
  refine TC.seq ?_
  refine TC.seq ?_
  refine TC.region ?_
  refine TL.val rfl rfl rfl (Y.move rfl rfl) ?_
  refine TL.nil ?_
  refine TQ.next ?_
  refine TC.block ?_
  refine TC.loopF (ι := Nat) [] (fun k => k ≤ 16) (fun k => [(5, some (vN k))]) (fun k => [SA.blk b1 ((kI key0 k).map v8).toArray 22, SA.blk b2 ((kI blk0 k).map v8).toArray 22]) (fun k => 16 - k) (0) (by omega) ⟨rfl, trivial⟩ (by rw [← kI_0, ← kI_0]; exact Pulls.cons (by first | (with_reducible (repeat first | exact Pull.here | apply Pull.there); done) | (repeat first | exact Pull.here | apply Pull.there)) (Pulls.cons (by first | (with_reducible (repeat first | exact Pull.here | apply Pull.there); done) | (repeat first | exact Pull.here | apply Pull.there)) Pulls.nil)) ?_
  rintro k hk F' L' rfl hL'
  simp only [List.cons_append, List.nil_append] at hL'
  subst hL'
  have l1 := kI_len key0 k; have l2 := kI_len blk0 k
  refine TC.seq ?_
  refine TC.region ?_
  refine TL.val rfl rfl rfl (Y.bin rfl rfl rfl (br_ltN (n := 16))) ?_
  refine TL.nil ?_
  refine TQ.next ?_
  refine TC.seq ?_
  refine TC.cond rfl (fun c0 => ?_) (fun c0 => ?_)
  · try simp only [decide_eq_true_eq, decide_eq_false_iff_not, Bool.not_eq_true', Bool.not_eq_false', Bool.and_eq_true, Bool.or_eq_true, Nat.not_lt, Nat.not_le, beq_iff_eq, bne_iff_ne] at c0
    refine TC.skip ?_
    refine TQ.next ?_
    refine TC.seq ?_
    refine TC.block ?_
    refine TC.seq ?_
    refine TC.region ?_
    refine TL.val rfl rfl rfl (Y.move rfl rfl) ?_
    refine TL.val rfl rfl rfl (Y.assign rfl rfl) ?_
    refine TL.nil ?_
    refine TQ.next ?_
    refine TC.region ?_
    refine TL.val rfl rfl rfl (Y.move rfl rfl) ?_
    refine TL.val rfl rfl rfl (Y.move rfl rfl) ?_
    refine TL.val rfl rfl rfl (Y.move rfl rfl) ?_
    refine TL.val rfl rfl rfl (Y.conv rfl Try.underlying3 Try.underlying5 rfl (cv_N_8)) ?_
    refine TL.val rfl rfl rfl (Y.move rfl rfl) ?_
    refine TL.val rfl rfl rfl (Y.bin rfl rfl rfl (br_mulN (m := 17) (by omega))) ?_
    refine TL.val rfl rfl rfl (Y.conv rfl Try.underlying3 Try.underlying5 rfl (cv_N_8)) ?_
    refine TL.val rfl rfl rfl (Y.indexArr rfl ar22 rfl rfl (by omega) (by ((try simp only [Nat.zero_add, Nat.add_zero, Nat.mul_one, Nat.one_mul, Nat.mul_zero, Nat.zero_mul]) <;> rfl))) ?_
    refine TL.eff0 rfl rfl (by first | exact X.store rfl sz5 rfl rfl rfl (by first | (with_reducible (repeat first | exact Pull.here | apply Pull.there); done) | (repeat first | exact Pull.here | apply Pull.there)) (by ((try simp only [List.length_set, List.length_map, List.length_append, List.length_replicate, List.size_toArray]); omega)) (by first | exact setM | rfl) | exact X.storeOwn rfl sz5 rfl (Nat.zero_add _).symm rfl rfl (by first | (with_reducible (repeat first | exact Pull.here | apply Pull.there); done) | (repeat first | exact Pull.here | apply Pull.there)) (by ((try simp only [List.length_set, List.length_map, List.length_append, List.length_replicate, List.size_toArray]); omega)) (by first | exact setML | rfl)) ?_
    rintro _ _ rfl
    refine TL.val rfl rfl rfl (Y.indexArr rfl ar22 rfl rfl (by omega) (by ((try simp only [Nat.zero_add, Nat.add_zero, Nat.mul_one, Nat.one_mul, Nat.mul_zero, Nat.zero_mul]) <;> rfl))) ?_
    refine TL.eff0 rfl rfl (by first | exact X.store rfl sz5 rfl rfl rfl (by first | (with_reducible (repeat first | exact Pull.here | apply Pull.there); done) | (repeat first | exact Pull.here | apply Pull.there)) (by ((try simp only [List.length_set, List.length_map, List.length_append, List.length_replicate, List.size_toArray]); omega)) (by first | exact setM | rfl) | exact X.storeOwn rfl sz5 rfl (Nat.zero_add _).symm rfl rfl (by first | (with_reducible (repeat first | exact Pull.here | apply Pull.there); done) | (repeat first | exact Pull.here | apply Pull.there)) (by ((try simp only [List.length_set, List.length_map, List.length_append, List.length_replicate, List.size_toArray]); omega)) (by first | exact setML | rfl)) ?_
    rintro _ _ rfl
    refine TL.nil ?_
    refine TQ.block_normal ?_
    refine TQ.next ?_
    refine TC.region ?_
    refine TL.val rfl rfl rfl (Y.bin rfl rfl rfl (br_addN (n := 1) (by omega))) ?_
    refine TL.val rfl rfl rfl (Y.move rfl rfl) ?_
    refine TL.nil ?_
    rw [show UInt8.ofNat k = key0 k from rfl, show UInt8.ofNat (17 * k) = blk0 k from rfl, kI_s, kI_s]
    refine TQ.loopF (k + 1) (by omega) (by omega) ⟨rfl, trivial⟩ (by (repeat first | exact Grow.refl | apply Grow.step | apply Grow.app)) ?_ ?_ ?_
    · kernel_rfl
    · rfl
    · simp only [List.cons_append, List.nil_append]
      exact (by (repeat first | (with_reducible exact Ent.refl) | (with_reducible exact Ent.nil) | refine Ent.cons (by first | (with_reducible (repeat first | exact Pull.here | apply Pull.there); done) | (repeat first | exact Pull.here | apply Pull.there)) ?_ | refine Ent.skip ?_))
  · try simp only [decide_eq_true_eq, decide_eq_false_iff_not, Bool.not_eq_true', Bool.not_eq_false', Bool.and_eq_true, Bool.or_eq_true, Nat.not_lt, Nat.not_le, beq_iff_eq, bne_iff_ne] at c0
    refine TC.exit ?_
    refine TQ.then_exit ?_
    refine TQ.then_exit ?_
    refine TQ.block_exit ?_
    refine TQ.next ?_
    refine TC.seq ?_
    obtain rfl : k = 16 := by omega
    rw [kI_16, kI_16, key0_kw]
    have l3 : (tab 16 blk0).length = 16 := tab_len
    have l4 : kw0.length = 16 := rfl
    refine TC.region ?_
    refine TL.val rfl rfl rfl (Y.loadAgg rfl ag22 rfl (Cels.full (by with_reducible (repeat first | exact In.here | apply In.there))) (by ((try simp only [List.length_map, List.length_set, List.length_replicate]); omega))) ?_
    refine TL.val rfl rfl rfl (Y.loadAgg rfl ag22 rfl (Cels.full (by with_reducible (repeat first | exact In.here | apply In.there))) (by ((try simp only [List.length_map, List.length_set, List.length_replicate]); omega))) ?_
    refine TL.eff rfl rfl rfl (X.call rfl Try.func8 (by kernel_rfl) rfl rfl (Block_fn kw0 rfl blk0 _)) ?_
    rintro _ _ ⟨rfl, rfl⟩
    refine TL.eff rfl rfl rfl (X.alloc rfl zc22) ?_
    rintro _ _ ⟨b4, rfl, rfl⟩
    refine TL.eff0 rfl rfl (by first | exact X.storeAll rfl sz22 (by ((try simp only [List.size_toArray, List.length_set, List.length_map, List.length_append, List.length_replicate, List.length_cons, List.length_nil]); (first | done | omega | (simp [*]; done)))) rfl rfl (by simp [Value.oneCell']) (by first | (with_reducible (repeat first | exact Pull.here | apply Pull.there); done) | (repeat first | exact Pull.here | apply Pull.there)) (by ((try simp only [List.size_toArray, List.length_set, List.length_map, List.length_append, List.length_replicate, List.length_cons, List.length_nil]); (first | done | omega | (simp [*]; done)))) | exact X.storeAgg rfl sz22 (by ((try simp only [List.size_toArray, List.length_set, List.length_map, List.length_append, List.length_replicate, List.length_cons, List.length_nil]); (first | done | omega | (simp [*]; done)))) rfl rfl (by simp [Value.oneCell']) (by first | (with_reducible (repeat first | exact Pull.here | apply Pull.there); done) | (repeat first | exact Pull.here | apply Pull.there)) (by ((try simp only [List.size_toArray, List.length_set, List.length_map, List.length_append, List.length_replicate, List.length_cons, List.length_nil]); (first | done | omega | (simp [*]; done)))) (writeM (by ((try simp only [List.length_set, List.length_map, List.length_append, List.length_replicate]); omega)))) ?_
    rintro _ _ rfl
    refine TL.nil ?_
    refine TQ.next ?_
    refine TC.seq ?_
    refine TC.region ?_
    refine TL.val rfl rfl rfl (Y.indexArr (j := 0) rfl ar22 rfl rfl (by omega) (by ((try simp only [Nat.zero_add, Nat.add_zero, Nat.mul_one, Nat.one_mul, Nat.mul_zero, Nat.zero_mul]) <;> rfl))) ?_
    refine TL.val rfl rfl rfl (Y.load rfl sc5 rfl (by first | exact Cel.blk (by with_reducible (repeat first | exact In.here | apply In.there)) (by first | exact getM (d := (0 : UInt8)) (by ((try simp only [List.length_set, List.length_map, List.length_append, List.length_replicate, List.size_toArray]); omega)) | rfl) | exact Cel.rblk (by with_reducible (repeat first | exact In.here | apply In.there)) (by first | exact getM (d := (0 : UInt8)) (by ((try simp only [List.length_set, List.length_map, List.length_append, List.length_replicate, List.size_toArray]); omega)) | rfl) | exact Cel.rds (by with_reducible (repeat first | exact In.here | apply In.there)) (getML (d := (0 : UInt8)) (by ((try simp only [List.length_set, List.length_map, List.length_append, List.length_replicate, List.size_toArray]); omega))) | exact Cel.owns (by with_reducible (repeat first | exact In.here | apply In.there)) (getML (d := (0 : UInt8)) (by ((try simp only [List.length_set, List.length_map, List.length_append, List.length_replicate, List.size_toArray]); omega))) | exact Cel.reads (by assumption) (by with_reducible (repeat first | exact In.here | apply In.there)) (getML (d := (0 : UInt8)) (by ((try simp only [List.length_set, List.length_map, List.length_append, List.length_replicate, List.size_toArray]); omega))))) ?_
    refine TL.val rfl rfl rfl (Y.bin rfl rfl rfl (br_eq8 (y := 105))) ?_
    rw [known0]
    refine TL.val rfl rfl rfl (Y.move rfl rfl) ?_
    refine TL.valG rfl rfl rfl (Y.indexArr (j := 1) rfl ar22 rfl rfl (by omega) (by ((try simp only [Nat.zero_add, Nat.add_zero, Nat.mul_one, Nat.one_mul, Nat.mul_zero, Nat.zero_mul]) <;> rfl))) ?_
    refine TL.valG rfl rfl rfl (Y.load rfl sc5 rfl (by first | exact Cel.blk (by with_reducible (repeat first | exact In.here | apply In.there)) (by first | exact getM (d := (0 : UInt8)) (by ((try simp only [List.length_set, List.length_map, List.length_append, List.length_replicate, List.size_toArray]); omega)) | rfl) | exact Cel.rblk (by with_reducible (repeat first | exact In.here | apply In.there)) (by first | exact getM (d := (0 : UInt8)) (by ((try simp only [List.length_set, List.length_map, List.length_append, List.length_replicate, List.size_toArray]); omega)) | rfl) | exact Cel.rds (by with_reducible (repeat first | exact In.here | apply In.there)) (getML (d := (0 : UInt8)) (by ((try simp only [List.length_set, List.length_map, List.length_append, List.length_replicate, List.size_toArray]); omega))) | exact Cel.owns (by with_reducible (repeat first | exact In.here | apply In.there)) (getML (d := (0 : UInt8)) (by ((try simp only [List.length_set, List.length_map, List.length_append, List.length_replicate, List.size_toArray]); omega))) | exact Cel.reads (by assumption) (by with_reducible (repeat first | exact In.here | apply In.there)) (getML (d := (0 : UInt8)) (by ((try simp only [List.length_set, List.length_map, List.length_append, List.length_replicate, List.size_toArray]); omega))))) ?_
    refine TL.valG rfl rfl rfl (Y.bin rfl rfl rfl (br_eq8 (y := 196))) ?_
    rw [known1]
    refine TL.val rfl rfl rfl (Y.pick_t rfl rfl rfl) ?_
    refine TL.val rfl rfl rfl (Y.move rfl rfl) ?_
    refine TL.valG rfl rfl rfl (Y.indexArr (j := 15) rfl ar22 rfl rfl (by omega) (by ((try simp only [Nat.zero_add, Nat.add_zero, Nat.mul_one, Nat.one_mul, Nat.mul_zero, Nat.zero_mul]) <;> rfl))) ?_
    refine TL.valG rfl rfl rfl (Y.load rfl sc5 rfl (by first | exact Cel.blk (by with_reducible (repeat first | exact In.here | apply In.there)) (by first | exact getM (d := (0 : UInt8)) (by ((try simp only [List.length_set, List.length_map, List.length_append, List.length_replicate, List.size_toArray]); omega)) | rfl) | exact Cel.rblk (by with_reducible (repeat first | exact In.here | apply In.there)) (by first | exact getM (d := (0 : UInt8)) (by ((try simp only [List.length_set, List.length_map, List.length_append, List.length_replicate, List.size_toArray]); omega)) | rfl) | exact Cel.rds (by with_reducible (repeat first | exact In.here | apply In.there)) (getML (d := (0 : UInt8)) (by ((try simp only [List.length_set, List.length_map, List.length_append, List.length_replicate, List.size_toArray]); omega))) | exact Cel.owns (by with_reducible (repeat first | exact In.here | apply In.there)) (getML (d := (0 : UInt8)) (by ((try simp only [List.length_set, List.length_map, List.length_append, List.length_replicate, List.size_toArray]); omega))) | exact Cel.reads (by assumption) (by with_reducible (repeat first | exact In.here | apply In.there)) (getML (d := (0 : UInt8)) (by ((try simp only [List.length_set, List.length_map, List.length_append, List.length_replicate, List.size_toArray]); omega))))) ?_
    refine TL.valG rfl rfl rfl (Y.bin rfl rfl rfl (br_eq8 (y := 90))) ?_
    rw [known15]
    refine TL.val rfl rfl rfl (Y.pick_t rfl rfl rfl) ?_
    refine TL.val rfl rfl rfl (Y.assign rfl rfl) ?_
    refine TL.nil ?_
    refine TQ.next ?_
    refine TC.ret ?_
    refine TQ.retE (res1 rfl rfl) (⟨rfl, rfl⟩) ?_
    exact (by (repeat first | (with_reducible exact Ent.refl) | (with_reducible exact Ent.nil) | refine Ent.cons (by first | (with_reducible (repeat first | exact Pull.here | apply Pull.there); done) | (repeat first | exact Pull.here | apply Pull.there)) ?_ | refine Ent.skip ?_))
theorem blocks_fn (key : List UInt8) (hk : key.length = 16) (s : St16) (L : List SA) :
    Fn Try.prog 3 [.agg (key.map v8).toArray, .agg ((tab 16 s).map v8).toArray] L (fun v L' => v = .bool true ∧ L' = L) := by
  have hs : (tab 16 s).length = 16 := tab_len
  have hc : (ct key s).length = 16 := tab_len
  refine Fn.of (N := 14) Try.func3 rfl rfl ?_
  refine TC.seq ?_
  refine TC.region ?_
  refine TL.eff rfl rfl rfl (X.boxA rfl rfl) ?_
  rintro _ _ ⟨b2, rfl, rfl⟩
  refine TL.eff rfl rfl rfl (X.boxA rfl rfl) ?_
  rintro _ _ ⟨b3, rfl, rfl⟩
  refine TL.val rfl rfl rfl (Y.assign rfl rfl) ?_
  refine TL.nil ?_
  refine TQ.next ?_
  refine TC.seq ?_
  refine TC.seq ?_
  refine TC.region ?_
  refine TL.eff rfl rfl rfl (X.call rfl Try.func7 (by kernel_rfl) rfl rfl (awake_fn _)) ?_
  rintro _ _ ⟨rfl, rfl⟩
  refine TL.val rfl rfl rfl (Y.not rfl rfl) ?_
  refine TL.nil ?_
  refine TQ.next ?_
  refine TC.cond_f rfl ?_
  refine TC.skip ?_
  refine TQ.next ?_
  refine TC.seq ?_
  refine TC.draws 8 _ (by kernel_rfl) (fun _ h => h) ?_
  refine TA.take 0 rfl rfl rfl rfl (by kernel_rfl) (by kernel_rfl) (by kernel_rfl) rfl (by kernel_rfl) (by kernel_rfl) (fun _ _ _ h => h) (Y.loadAgg rfl ag22 rfl (Cels.full (by with_reducible (repeat first | exact In.here | apply In.there))) (by ((try simp only [List.length_map, List.length_set, List.length_replicate]); omega))) ?_
  refine TA.take 1 rfl rfl rfl rfl (by kernel_rfl) (by kernel_rfl) (by kernel_rfl) rfl (by kernel_rfl) (by kernel_rfl) (fun _ _ _ h => h) (Y.loadAgg rfl ag22 rfl (Cels.full (by with_reducible (repeat first | exact In.here | apply In.there))) (by ((try simp only [List.length_map, List.length_set, List.length_replicate]); omega))) ?_
  refine TA.take 3 rfl rfl rfl rfl (by kernel_rfl) (by kernel_rfl) (by kernel_rfl) rfl (by kernel_rfl) (by kernel_rfl) (fun _ _ _ h => h) (Y.loadAgg rfl ag22 rfl (Cels.full (by with_reducible (repeat first | exact In.here | apply In.there))) (by ((try simp only [List.length_map, List.length_set, List.length_replicate]); omega))) ?_
  refine TA.take 4 rfl rfl rfl rfl (by kernel_rfl) (by kernel_rfl) (by kernel_rfl) rfl (by kernel_rfl) (by kernel_rfl) (fun _ _ _ h => h) (Y.loadAgg rfl ag22 rfl (Cels.full (by with_reducible (repeat first | exact In.here | apply In.there))) (by ((try simp only [List.length_map, List.length_set, List.length_replicate]); omega))) ?_
  refine TA.one 2 (by kernel_rfl) rfl rfl rfl rfl (X.call rfl Try.func8 (by kernel_rfl) rfl rfl (Block_fn key hk s _)) ?_
  rintro _ _ ⟨rfl, rfl⟩
  refine ⟨(Or.inr (fun w h A hA => h A (by with_reducible (first | assumption | (repeat first | exact In.there hA | apply In.there))))), ?_⟩
  refine TA.one 5 (by kernel_rfl) rfl rfl rfl rfl (X.call rfl Try.func9 (by kernel_rfl) rfl rfl (refBlock_fn key hk s _)) ?_
  rintro _ _ ⟨rfl, rfl⟩
  refine ⟨(Or.inr (fun w h A hA => h A (by with_reducible (first | assumption | (repeat first | exact In.there hA | apply In.there))))), ?_⟩
  refine TA.take 6 rfl rfl rfl rfl (by kernel_rfl) (by kernel_rfl) (by kernel_rfl) rfl (by kernel_rfl) (by kernel_rfl) (fun _ _ _ h => h) (Y.eqArr8 rfl Try.underlying22 Try.underlying5 sz5 eg22 rfl rfl (by ((try simp only [List.size_toArray, List.length_set, List.length_map, List.length_append, List.length_replicate, List.length_cons, List.length_nil]); (first | done | omega | (simp [*]; done)))) (by ((try simp only [List.size_toArray, List.length_set, List.length_map, List.length_append, List.length_replicate, List.length_cons, List.length_nil]); (first | done | omega | (simp [*]; done))))) ?_
  rw [show decide (ct key s = ct key s) = true from decide_eq_true rfl]
  refine TA.take 7 rfl rfl rfl rfl (by kernel_rfl) (by kernel_rfl) (by kernel_rfl) rfl (by kernel_rfl) (by kernel_rfl) (fun _ _ _ h => h) (Y.assign rfl rfl) ?_
  refine TA.done (by kernel_rfl) ?_
  refine TQ.next ?_
  refine TC.ret ?_
  refine TQ.retE (res1 rfl rfl) (⟨rfl, rfl⟩) ?_
  exact (by (repeat first | (with_reducible exact Ent.refl) | (with_reducible exact Ent.nil) | refine Ent.cons (by first | (with_reducible (repeat first | exact Pull.here | apply Pull.there); done) | (repeat first | exact Pull.here | apply Pull.there)) ?_ | refine Ent.skip ?_))
/-! ### enciphering is one to one -/
def Eq16 (s t : St16) : Prop := ∀ i, i < 16 → s i = t i
theorem eq16_tab {s t : St16} : tab 16 s = tab 16 t ↔ Eq16 s t :=
  ⟨fun h i hi => by
    have e : (tab 16 s).getD i 0 = (tab 16 t).getD i 0 := by rw [h]
    rwa [tab_getD hi, tab_getD hi] at e, tab_congr⟩
def inv : List UInt8 := [82, 9, 106, 213, 48, 54, 165, 56, 191, 64, 163, 158, 129, 243, 215, 251, 124, 227, 57, 130, 155, 47, 255, 135, 52, 142, 67, 68, 196, 222, 233, 203, 84, 123, 148, 50, 166, 194, 35, 61, 238, 76, 149, 11, 66, 250, 195, 78, 8, 46, 161, 102, 40, 217, 36, 178, 118, 91, 162, 73, 109, 139, 209, 37, 114, 248, 246, 100, 134, 104, 152, 22, 212, 164, 92, 204, 93, 101, 182, 146, 108, 112, 72, 80, 253, 237, 185, 218, 94, 21, 70, 87, 167, 141, 157, 132, 144, 216, 171, 0, 140, 188, 211, 10, 247, 228, 88, 5, 184, 179, 69, 6, 208, 44, 30, 143, 202, 63, 15, 2, 193, 175, 189, 3, 1, 19, 138, 107, 58, 145, 17, 65, 79, 103, 220, 234, 151, 242, 207, 206, 240, 180, 230, 115, 150, 172, 116, 34, 231, 173, 53, 133, 226, 249, 55, 232, 28, 117, 223, 110, 71, 241, 26, 113, 29, 41, 197, 137, 111, 183, 98, 14, 170, 24, 190, 27, 252, 86, 62, 75, 198, 210, 121, 32, 154, 219, 192, 254, 120, 205, 90, 244, 31, 221, 168, 51, 136, 7, 199, 49, 177, 18, 16, 89, 39, 128, 236, 95, 96, 81, 127, 169, 25, 181, 74, 13, 45, 229, 122, 159, 147, 201, 156, 239, 160, 224, 59, 77, 174, 42, 245, 176, 200, 235, 187, 60, 131, 83, 153, 97, 23, 43, 4, 126, 186, 119, 214, 38, 225, 105, 20, 99, 85, 33, 12, 125]
set_option maxRecDepth 10000 in
theorem inv_all : ((List.range 256).all fun n => inv.getD (sB n).toNat 0 == UInt8.ofNat n) = true := by decide +kernel
theorem inv_sB (x : UInt8) : inv.getD (sB x.toNat).toNat 0 = x := by
  have := List.all_eq_true.1 inv_all x.toNat (List.mem_range.2 x.toNat_lt)
  rw [UInt8.ofNat_toNat] at this; exact eq_of_beq this
theorem sB_inj {x y : UInt8} (h : sB x.toNat = sB y.toNat) : x = y := by rw [← inv_sB x, h, inv_sB]
theorem subS_inj {s t : St16} (h : Eq16 (subS s) (subS t)) : Eq16 s t := fun m hm => by
  have := h ((m + 12 * (m % 4)) % 16) (by omega)
  rw [subS, subS, show ((m + 12 * (m % 4)) % 16 + 4 * ((m + 12 * (m % 4)) % 16 % 4)) % 16 = m by omega] at this
  exact sB_inj this
theorem addK_inj {key : List UInt8} {r : Nat} {s t : St16} (h : Eq16 (addK key r s) (addK key r t)) : Eq16 s t := fun m hm => by
  have := congrArg (· ^^^ kK key (16 * r + m)) (h m hm)
  simp only [addK] at this
  rwa [UInt8.xor_assoc, UInt8.xor_self, UInt8.xor_zero, UInt8.xor_assoc, UInt8.xor_self, UInt8.xor_zero] at this
/-- one of a column's four, mixed: all' is the sum of all -/
theorem mix_at' (s : St16) (c j : Nat) (hj : j < 4) : mixS s (4 * c + j) = s (4 * c + j) ^^^ (allS s c ^^^ (dbl (s (4 * c + j)) ^^^ dbl (s (4 * c + (j + 1) % 4)))) := by rw [mix_at s c j hj, dblx]
theorem all_mix (s : St16) (c : Nat) : allS (mixS s) c = allS s c := by
  have e0 := mix_at' s c 0 (by omega); have e1 := mix_at' s c 1 (by omega); have e2 := mix_at' s c 2 (by omega); have e3 := mix_at' s c 3 (by omega)
  simp only [Nat.add_zero, Nat.reduceAdd, Nat.reduceMod] at e0 e1 e2 e3
  rw [allS, e0, e1, e2, e3]
  have ha : allS s c = s (4 * c) ^^^ s (4 * c + 1) ^^^ s (4 * c + 2) ^^^ s (4 * c + 3) := rfl
  generalize allS s c = A at ha ⊢
  generalize s (4 * c) = a0 at ha ⊢; generalize s (4 * c + 1) = a1 at ha ⊢; generalize s (4 * c + 2) = a2 at ha ⊢; generalize s (4 * c + 3) = a3 at ha ⊢
  generalize dbl a0 = d0; generalize dbl a1 = d1; generalize dbl a2 = d2; generalize dbl a3 = d3
  have : (a0 ^^^ (A ^^^ (d0 ^^^ d1))) ^^^ (a1 ^^^ (A ^^^ (d1 ^^^ d2))) ^^^ (a2 ^^^ (A ^^^ (d2 ^^^ d3))) ^^^ (a3 ^^^ (A ^^^ (d3 ^^^ d0))) = (a0 ^^^ a1 ^^^ a2 ^^^ a3) ^^^ ((A ^^^ A) ^^^ (A ^^^ A) ^^^ (d0 ^^^ d0) ^^^ (d1 ^^^ d1) ^^^ (d2 ^^^ d2) ^^^ (d3 ^^^ d3)) := by ac_rfl
  rw [this, ← ha]
  simp only [UInt8.xor_self, UInt8.xor_zero]
def dd (x : UInt8) : UInt8 := dbl (dbl x)
theorem ddx (x y : UInt8) : dd (x ^^^ y) = dd x ^^^ dd y := by rw [dd, dblx, dblx]; rfl
theorem mix2 (s : St16) (c j : Nat) (hj : j < 4) : mixS (mixS s) (4 * c + j) = s (4 * c + j) ^^^ (dd (s (4 * c + j)) ^^^ dd (s (4 * c + (j + 2) % 4))) := by
  rw [mix_at' (mixS s) c j hj, all_mix, mix_at' s c j hj, mix_at' s c ((j + 1) % 4) (by omega), show ((j + 1) % 4 + 1) % 4 = (j + 2) % 4 by omega]
  generalize allS s c = A
  generalize s (4 * c + j) = a; generalize s (4 * c + (j + 1) % 4) = b; generalize s (4 * c + (j + 2) % 4) = x
  simp only [dblx, dd]
  generalize dbl (dbl a) = a2; generalize dbl (dbl b) = b2; generalize dbl (dbl x) = x2
  generalize dbl a = a1; generalize dbl b = b1; generalize dbl A = A1
  have : a ^^^ (A ^^^ (a1 ^^^ b1)) ^^^ (A ^^^ (a1 ^^^ (A1 ^^^ (a2 ^^^ b2)) ^^^ (b1 ^^^ (A1 ^^^ (b2 ^^^ x2))))) = a ^^^ (a2 ^^^ x2) ^^^ ((A ^^^ A) ^^^ (a1 ^^^ a1) ^^^ (b1 ^^^ b1) ^^^ (A1 ^^^ A1) ^^^ (b2 ^^^ b2)) := by ac_rfl
  rw [this]
  simp only [UInt8.xor_self, UInt8.xor_zero]
theorem mix4 (s : St16) (c j : Nat) (hj : j < 4) : mixS (mixS (mixS (mixS s))) (4 * c + j) = s (4 * c + j) := by
  rw [mix2 (mixS (mixS s)) c j hj, mix2 s c j hj, mix2 s c ((j + 2) % 4) (by omega), show ((j + 2) % 4 + 2) % 4 = j by omega]
  generalize s (4 * c + j) = a; generalize s (4 * c + (j + 2) % 4) = x
  simp only [ddx]
  generalize dd (dd a) = a4; generalize dd (dd x) = x4
  generalize dd a = a2; generalize dd x = x2
  have : a ^^^ (a2 ^^^ x2) ^^^ (a2 ^^^ (a4 ^^^ x4) ^^^ (x2 ^^^ (x4 ^^^ a4))) = a ^^^ ((a2 ^^^ a2) ^^^ (x2 ^^^ x2) ^^^ (a4 ^^^ a4) ^^^ (x4 ^^^ x4)) := by ac_rfl
  rw [this]
  simp only [UInt8.xor_self, UInt8.xor_zero]
theorem mixS_inj {s t : St16} (h : Eq16 (mixS s) (mixS t)) : Eq16 s t := fun m hm => by
  have h4 : Eq16 (mixS (mixS (mixS (mixS s)))) (mixS (mixS (mixS (mixS t)))) := fun i hi => mixS_congr (fun i hi => mixS_congr (fun i hi => mixS_congr h i hi) i hi) i hi
  have e : 4 * (m / 4) + m % 4 = m := by omega
  have := h4 (4 * (m / 4) + m % 4) (by omega)
  rwa [mix4 _ _ _ (by omega), mix4 _ _ _ (by omega), e] at this
theorem rnds_inj {key : List UInt8} {s t : St16} : ∀ r, Eq16 (rnds key s r) (rnds key t r) → Eq16 s t
  | 0, h => addK_inj h
  | r + 1, h => by
    have h1 := addK_inj h
    by_cases c : r + 1 < 10
    · rw [if_pos c, if_pos c] at h1; exact rnds_inj r (subS_inj (mixS_inj h1))
    · rw [if_neg c, if_neg c] at h1; exact rnds_inj r (subS_inj h1)
theorem rnds_congr {key : List UInt8} {s t : St16} (h : Eq16 s t) : ∀ r, Eq16 (rnds key s r) (rnds key t r)
  | 0 => fun i hi => by rw [rnds, rnds, addK, addK, h i hi]
  | r + 1 => fun i hi => by
    have ih : Eq16 (subS (rnds key s r)) (subS (rnds key t r)) := fun i _ => subS_congr (rnds_congr h r) i
    rw [rnds, rnds, rnd, rnd, addK, addK]; congr 1
    by_cases c : r + 1 < 10
    · rw [if_pos c, if_pos c]; exact mixS_congr ih i hi
    · rw [if_neg c, if_neg c]; exact ih i hi
theorem apart (key : List UInt8) (s t : St16) : decide (ct key s = ct key t) = decide (tab 16 s = tab 16 t) := by
  rw [decide_eq_decide, eq16_tab, eq16_tab]
  exact ⟨rnds_inj 10, fun h => rnds_congr h 10⟩
theorem apart_fn (key : List UInt8) (hk : key.length = 16) (s t : St16) (L : List SA) :
    Fn Try.prog 4 [.agg (key.map v8).toArray, .agg ((tab 16 s).map v8).toArray, .agg ((tab 16 t).map v8).toArray] L (fun v L' => v = .bool true ∧ L' = L) := by
  have hs : (tab 16 s).length = 16 := tab_len
  have ht : (tab 16 t).length = 16 := tab_len
  have hc : (ct key s).length = 16 := tab_len
  have hc2 : (ct key t).length = 16 := tab_len
  refine Fn.of (N := 20) Try.func4 rfl rfl ?_
  refine TC.seq ?_
  refine TC.region ?_
  refine TL.eff rfl rfl rfl (X.boxA rfl rfl) ?_
  rintro _ _ ⟨b3, rfl, rfl⟩
  refine TL.eff rfl rfl rfl (X.boxA rfl rfl) ?_
  rintro _ _ ⟨b4, rfl, rfl⟩
  refine TL.eff rfl rfl rfl (X.boxA rfl rfl) ?_
  rintro _ _ ⟨b5, rfl, rfl⟩
  refine TL.val rfl rfl rfl (Y.assign rfl rfl) ?_
  refine TL.nil ?_
  refine TQ.next ?_
  refine TC.seq ?_
  refine TC.seq ?_
  refine TC.region ?_
  refine TL.eff rfl rfl rfl (X.call rfl Try.func7 (by kernel_rfl) rfl rfl (awake_fn _)) ?_
  rintro _ _ ⟨rfl, rfl⟩
  refine TL.val rfl rfl rfl (Y.not rfl rfl) ?_
  refine TL.nil ?_
  refine TQ.next ?_
  refine TC.cond_f rfl ?_
  refine TC.skip ?_
  refine TQ.next ?_
  refine TC.seq ?_
  refine TC.draws 12 _ (by kernel_rfl) (fun _ h => h) ?_
  refine TA.take 0 rfl rfl rfl rfl (by kernel_rfl) (by kernel_rfl) (by kernel_rfl) rfl (by kernel_rfl) (by kernel_rfl) (fun _ _ _ h => h) (Y.loadAgg rfl ag22 rfl (Cels.full (by with_reducible (repeat first | exact In.here | apply In.there))) (by ((try simp only [List.length_map, List.length_set, List.length_replicate]); omega))) ?_
  refine TA.take 1 rfl rfl rfl rfl (by kernel_rfl) (by kernel_rfl) (by kernel_rfl) rfl (by kernel_rfl) (by kernel_rfl) (fun _ _ _ h => h) (Y.loadAgg rfl ag22 rfl (Cels.full (by with_reducible (repeat first | exact In.here | apply In.there))) (by ((try simp only [List.length_map, List.length_set, List.length_replicate]); omega))) ?_
  refine TA.take 3 rfl rfl rfl rfl (by kernel_rfl) (by kernel_rfl) (by kernel_rfl) rfl (by kernel_rfl) (by kernel_rfl) (fun _ _ _ h => h) (Y.loadAgg rfl ag22 rfl (Cels.full (by with_reducible (repeat first | exact In.here | apply In.there))) (by ((try simp only [List.length_map, List.length_set, List.length_replicate]); omega))) ?_
  refine TA.take 4 rfl rfl rfl rfl (by kernel_rfl) (by kernel_rfl) (by kernel_rfl) rfl (by kernel_rfl) (by kernel_rfl) (fun _ _ _ h => h) (Y.loadAgg rfl ag22 rfl (Cels.full (by with_reducible (repeat first | exact In.here | apply In.there))) (by ((try simp only [List.length_map, List.length_set, List.length_replicate]); omega))) ?_
  refine TA.take 7 rfl rfl rfl rfl (by kernel_rfl) (by kernel_rfl) (by kernel_rfl) rfl (by kernel_rfl) (by kernel_rfl) (fun _ _ _ h => h) (Y.loadAgg rfl ag22 rfl (Cels.full (by with_reducible (repeat first | exact In.here | apply In.there))) (by ((try simp only [List.length_map, List.length_set, List.length_replicate]); omega))) ?_
  refine TA.take 8 rfl rfl rfl rfl (by kernel_rfl) (by kernel_rfl) (by kernel_rfl) rfl (by kernel_rfl) (by kernel_rfl) (fun _ _ _ h => h) (Y.loadAgg rfl ag22 rfl (Cels.full (by with_reducible (repeat first | exact In.here | apply In.there))) (by ((try simp only [List.length_map, List.length_set, List.length_replicate]); omega))) ?_
  refine TA.take 9 rfl rfl rfl rfl (by kernel_rfl) (by kernel_rfl) (by kernel_rfl) rfl (by kernel_rfl) (by kernel_rfl) (fun _ _ _ h => h) (Y.eqArr8 rfl Try.underlying22 Try.underlying5 sz5 eg22 rfl rfl (by ((try simp only [List.size_toArray, List.length_set, List.length_map, List.length_append, List.length_replicate, List.length_cons, List.length_nil]); (first | done | omega | (simp [*]; done)))) (by ((try simp only [List.size_toArray, List.length_set, List.length_map, List.length_append, List.length_replicate, List.length_cons, List.length_nil]); (first | done | omega | (simp [*]; done))))) ?_
  refine TA.one 2 (by kernel_rfl) rfl rfl rfl rfl (X.call rfl Try.func8 (by kernel_rfl) rfl rfl (Block_fn key hk s _)) ?_
  rintro _ _ ⟨rfl, rfl⟩
  refine ⟨(Or.inr (fun w h A hA => h A (by with_reducible (first | assumption | (repeat first | exact In.there hA | apply In.there))))), ?_⟩
  refine TA.one 5 (by kernel_rfl) rfl rfl rfl rfl (X.call rfl Try.func8 (by kernel_rfl) rfl rfl (Block_fn key hk t _)) ?_
  rintro _ _ ⟨rfl, rfl⟩
  refine ⟨(Or.inr (fun w h A hA => h A (by with_reducible (first | assumption | (repeat first | exact In.there hA | apply In.there))))), ?_⟩
  refine TA.take 6 rfl rfl rfl rfl (by kernel_rfl) (by kernel_rfl) (by kernel_rfl) rfl (by kernel_rfl) (by kernel_rfl) (fun _ _ _ h => h) (Y.eqArr8 rfl Try.underlying22 Try.underlying5 sz5 eg22 rfl rfl (by ((try simp only [List.size_toArray, List.length_set, List.length_map, List.length_append, List.length_replicate, List.length_cons, List.length_nil]); (first | done | omega | (simp [*]; done)))) (by ((try simp only [List.size_toArray, List.length_set, List.length_map, List.length_append, List.length_replicate, List.length_cons, List.length_nil]); (first | done | omega | (simp [*]; done))))) ?_
  refine TA.take 10 rfl rfl rfl rfl (by kernel_rfl) (by kernel_rfl) (by kernel_rfl) rfl (by kernel_rfl) (by kernel_rfl) (fun _ _ _ h => h) (Y.eqBool rfl Try.underlying4 rfl rfl) ?_
  rw [apart, beq_self_eq_true]
  refine TA.take 11 rfl rfl rfl rfl (by kernel_rfl) (by kernel_rfl) (by kernel_rfl) rfl (by kernel_rfl) (by kernel_rfl) (fun _ _ _ h => h) (Y.assign rfl rfl) ?_
  refine TA.done (by kernel_rfl) ?_
  refine TQ.next ?_
  refine TC.ret ?_
  refine TQ.retE (res1 rfl rfl) (⟨rfl, rfl⟩) ?_
  exact (by (repeat first | (with_reducible exact Ent.refl) | (with_reducible exact Ent.nil) | refine Ent.cons (by first | (with_reducible (repeat first | exact Pull.here | apply Pull.there); done) | (repeat first | exact Pull.here | apply Pull.there)) ?_ | refine Ent.skip ?_))
end aes
end Go.Proofs.Ytpddnhjpjmbgfaa
