/- AES: a block encrypted, as the document says. -/
import Derived.Test.YtpddnhjpjmbgfaaAesRef
namespace Go.Proofs.Ytpddnhjpjmbgfaa
set_option linter.unusedVariables false
set_option linter.unusedSimpArgs false
open Go.RowKit
namespace aes
namespace FxAesRefB
set_option maxRecDepth 100000
theorem ag22 : Program.aggN Try.prog 22 = some 16 := by kernel_rfl
theorem ar22 : Program.arrI Try.prog 22 = some (16, 1) := by kernel_rfl
theorem ar34 : Program.arrI Try.prog 34 = some (256, 1) := by kernel_rfl
theorem ar36 : Program.arrI Try.prog 36 = some (4, 1) := by kernel_rfl
theorem ar37 : Program.arrI Try.prog 37 = some (44, 4) := by kernel_rfl
theorem sc5 : Program.isSc Try.prog 5 = true := by kernel_rfl
theorem sz22 : (Try.prog.info? 22).map (·.size) = some 16 := by kernel_rfl
theorem sz5 : (Try.prog.info? 5).map (·.size) = some 1 := by kernel_rfl
theorem zc22 : Program.zeroC Try.prog 22 = some ((List.replicate 16 (0 : UInt8)).map v8).toArray := by kernel_rfl
end FxAesRefB
open FxAesRefB
theorem two_all : ((List.range 256).all fun n => times 2 (UInt8.ofNat n) == dbl (UInt8.ofNat n) && times 3 (UInt8.ofNat n) == dbl (UInt8.ofNat n) ^^^ UInt8.ofNat n) = true := by decide +kernel
theorem two_times (x : UInt8) : times 2 x = dbl x ∧ times 3 x = dbl x ^^^ x := by
  have := List.all_eq_true.1 two_all x.toNat (List.mem_range.2 x.toNat_lt)
  rw [UInt8.ofNat_toNat, Bool.and_eq_true] at this; exact ⟨eq_of_beq this.1, eq_of_beq this.2⟩
theorem dblx_all : ((List.range 256).all fun n => (List.range 256).all fun m => dbl (UInt8.ofNat n ^^^ UInt8.ofNat m) == dbl (UInt8.ofNat n) ^^^ dbl (UInt8.ofNat m)) = true := by decide +kernel
theorem dblx (x y : UInt8) : dbl (x ^^^ y) = dbl x ^^^ dbl y := by
  have := List.all_eq_true.1 (List.all_eq_true.1 dblx_all x.toNat (List.mem_range.2 x.toNat_lt)) y.toNat (List.mem_range.2 y.toNat_lt)
  rw [UInt8.ofNat_toNat, UInt8.ofNat_toNat] at this; exact eq_of_beq this
theorem ref_mix (U : St16) (c i : Nat) (hc : c < 4) (hi : i < 4) :
    times 2 ((tab 16 U).getD (4 * c + i) 0) ^^^ times 3 ((tab 16 U).getD (4 * c + (i + 1) % 4) 0) ^^^ (tab 16 U).getD (4 * c + (i + 2) % 4) 0 ^^^ (tab 16 U).getD (4 * c + (i + 3) % 4) 0 = mixS U (4 * c + i) := by
  rw [tab_getD (by omega), tab_getD (by omega), tab_getD (by omega), tab_getD (by omega), (two_times _).1, (two_times _).2]
  have e : ∀ d, cl U (4 * c + i) d = U (4 * c + (i + d) % 4) := fun d => by
    simp only [cl]; congr 1; omega
  rw [mixS, dblx, e, e, e, e, show (i + 0) % 4 = i by omega]
  generalize U (4 * c + i) = a
  generalize U (4 * c + (i + 1) % 4) = b
  generalize U (4 * c + (i + 2) % 4) = x
  generalize U (4 * c + (i + 3) % 4) = y
  generalize dbl a = da
  generalize dbl b = db
  have : a ^^^ (a ^^^ b ^^^ x ^^^ y ^^^ (da ^^^ db)) = (a ^^^ a) ^^^ (da ^^^ (db ^^^ b) ^^^ x ^^^ y) := by ac_rfl
  rw [this, UInt8.xor_self, UInt8.zero_xor]
def stK (key : List UInt8) (S V : St16) (r k : Nat) : List UInt8 := tab 16 fun i => if i < k then V i ^^^ kK key (16 * r + i) else S i
theorem stK_len (key : List UInt8) (S V : St16) (r k : Nat) : (stK key S V r k).length = 16 := tab_len
theorem stK_0 (key : List UInt8) (S V : St16) (r : Nat) : tab 16 S = stK key S V r 0 := tab_congr fun i _ => by simp
theorem stK_16 (key : List UInt8) (S V : St16) (r : Nat) : stK key S V r 16 = tab 16 (addK key r V) := tab_congr fun i hi => by rw [if_pos hi]; rfl
theorem stK_s (key : List UInt8) (S V : St16) (r k : Nat) (hr : r ≤ 10) (hk : k < 16) : (stK key S V r k).set k (V k ^^^ (wL key).getD (16 * r + k) 0) = stK key S V r (k + 1) := by
  rw [stK, tab_set, stK, wL_get key (by omega)]; refine tab_congr fun i _ => ?_
  by_cases h : i = k
  · rw [if_pos h, if_pos (by omega), h]
  · rw [if_neg h]
    by_cases h2 : i < k
    · rw [if_pos h2, if_pos (by omega)]
    · rw [if_neg h2, if_neg (by omega)]
theorem subK_r (s : St16) (c i : Nat) (hc : c < 4) (hi : i < 4) : (subK s (4 * c + i)).set (4 * c + i) ((boxK 256).getD ((tab 16 s).getD (4 * ((c + i) % 4) + i) 0).toNat 0) = subK s (4 * c + i + 1) := by
  rw [box_get, subK, tab_set, subK, tab_getD (by omega)]
  refine tab_congr fun m _ => ?_
  by_cases h : m = 4 * c + i
  · rw [if_pos h, if_pos (by omega), h, subS, show (4 * c + i + 4 * ((4 * c + i) % 4)) % 16 = 4 * ((c + i) % 4) + i by omega]
  · rw [if_neg h]
    by_cases h2 : m < 4 * c + i
    · rw [if_pos h2, if_pos (by omega)]
    · rw [if_neg h2, if_neg (by omega)]
theorem xk_wL (key : List UInt8) (s : St16) : xk s (wL key) 0 16 = tab 16 (rnds key s 0) := by
  rw [xk_16]; exact tab_congr fun i hi => by rw [wL_get key (by omega)]; rfl
set_option maxHeartbeats 4000000 in
theorem block_fn (bx bw : Nat) (key : List UInt8) (s : St16) (L : List SA) :
    Fn Try.prog 16 [pt bx 0, pt bw 0, .agg ((tab 16 s).map v8).toArray] (SA.blk bx ((boxK 256).map v8).toArray 34 :: SA.blk bw ((wL key).map v8).toArray 37 :: L)
      (fun v L' => v = .agg ((tab 16 (rnds key s 10)).map v8).toArray ∧ L' = SA.blk bx ((boxK 256).map v8).toArray 34 :: SA.blk bw ((wL key).map v8).toArray 37 :: L) := by
  have hbl := boxK_len 256
  have hwl := wL_len key
  refine Fn.of (N := 133) Try.func16 rfl rfl ?_
  refine TC.seq ?_
  refine TC.region ?_
  refine TL.eff rfl rfl rfl (X.boxA rfl rfl) ?_
  rintro _ _ ⟨b5, rfl, rfl⟩
  refine TL.eff rfl rfl rfl (X.alloc rfl zc22) ?_
  rintro _ _ ⟨b6, rfl, rfl⟩
  refine TL.nil ?_
  refine TQ.next ?_
  refine TC.seq ?_
  refine TC.seq ?_
  refine TC.region ?_
  refine TL.val rfl rfl rfl (Y.move rfl rfl) ?_
  refine TL.nil ?_
  refine TQ.next ?_
  refine TC.block ?_
  refine TC.loopF (ι := Nat) [] (fun k => k ≤ 16) (fun k => [(15, some (vN k))]) (fun k => [SA.blk b5 ((xk s (wL key) 0 k).map v8).toArray 22]) (fun k => 16 - k) (0) (by omega) ⟨rfl, trivial⟩ (by rw [← xk_0]; exact Pulls.cons (by first | (with_reducible (repeat first | exact Pull.here | apply Pull.there); done) | (repeat first | exact Pull.here | apply Pull.there)) Pulls.nil) ?_
  rintro k hk F' L' rfl hL'
  simp only [List.cons_append, List.nil_append] at hL'
  subst hL'
  have hl := xk_len s (wL key) 0 k
  refine TC.seq ?_
  refine TC.region ?_
  refine TL.val rfl rfl rfl (Y.bin rfl rfl rfl (br_ltN (n := 16))) ?_
  refine TL.nil ?_
  refine TQ.next ?_
  refine TC.seq ?_
  refine TC.cond rfl (fun c0 => ?_) (fun c0 => ?_)
  · try simp only [decide_eq_true_eq, decide_eq_false_iff_not, Bool.not_eq_true', Bool.not_eq_false', Bool.and_eq_true, Bool.or_eq_true, Nat.not_lt, Nat.not_le, beq_iff_eq, bne_iff_ne] at c0
    refine TC.skip ?_
    refine TQ.next ?_
    refine TC.seq ?_
    refine TC.block ?_
    refine TC.seq ?_
    refine TC.region ?_
    refine TL.val rfl rfl rfl (Y.move rfl rfl) ?_
    refine TL.val rfl rfl rfl (Y.assign rfl rfl) ?_
    refine TL.nil ?_
    refine TQ.next ?_
    refine TC.draws 15 _ (by kernel_rfl) (fun _ h => h) ?_
    refine TA.take 0 rfl rfl rfl rfl (by kernel_rfl) (by kernel_rfl) (by kernel_rfl) rfl (by kernel_rfl) (by kernel_rfl) (fun _ _ _ h => h) (Y.move rfl rfl) ?_
    refine TA.take 1 rfl rfl rfl rfl (by kernel_rfl) (by kernel_rfl) (by kernel_rfl) rfl (by kernel_rfl) (by kernel_rfl) (fun _ _ _ h => h) (Y.move rfl rfl) ?_
    refine TA.take 2 rfl rfl rfl rfl (by kernel_rfl) (by kernel_rfl) (by kernel_rfl) rfl (by kernel_rfl) (by kernel_rfl) (fun _ _ _ h => h) (Y.indexArr rfl ar22 rfl rfl (by omega) (by ((try simp only [Nat.zero_add, Nat.add_zero, Nat.mul_one, Nat.one_mul, Nat.mul_zero, Nat.zero_mul]) <;> rfl))) ?_
    refine TA.take 3 rfl rfl rfl rfl (by kernel_rfl) (by kernel_rfl) (by kernel_rfl) rfl (by kernel_rfl) (by kernel_rfl) (fun _ _ _ h => h) (Y.load rfl sc5 rfl (by first | exact Cel.blk (by with_reducible (repeat first | exact In.here | apply In.there)) (by first | exact getM (d := (0 : UInt8)) (by ((try simp only [List.length_set, List.length_map, List.length_append, List.length_replicate, List.size_toArray]); omega)) | rfl) | exact Cel.rblk (by with_reducible (repeat first | exact In.here | apply In.there)) (by first | exact getM (d := (0 : UInt8)) (by ((try simp only [List.length_set, List.length_map, List.length_append, List.length_replicate, List.size_toArray]); omega)) | rfl) | exact Cel.rds (by with_reducible (repeat first | exact In.here | apply In.there)) (getML (d := (0 : UInt8)) (by ((try simp only [List.length_set, List.length_map, List.length_append, List.length_replicate, List.size_toArray]); omega))) | exact Cel.owns (by with_reducible (repeat first | exact In.here | apply In.there)) (getML (d := (0 : UInt8)) (by ((try simp only [List.length_set, List.length_map, List.length_append, List.length_replicate, List.size_toArray]); omega))) | exact Cel.reads (by assumption) (by with_reducible (repeat first | exact In.here | apply In.there)) (getML (d := (0 : UInt8)) (by ((try simp only [List.length_set, List.length_map, List.length_append, List.length_replicate, List.size_toArray]); omega))))) ?_
    refine TA.take 4 rfl rfl rfl rfl (by kernel_rfl) (by kernel_rfl) (by kernel_rfl) rfl (by kernel_rfl) (by kernel_rfl) (fun _ _ _ h => h) (Y.move rfl rfl) ?_
    refine TA.take 5 rfl rfl rfl rfl (by kernel_rfl) (by kernel_rfl) (by kernel_rfl) rfl (by kernel_rfl) (by kernel_rfl) (fun _ _ _ h => h) (Y.move rfl rfl) ?_
    refine TA.take 6 rfl rfl rfl rfl (by kernel_rfl) (by kernel_rfl) (by kernel_rfl) rfl (by kernel_rfl) (by kernel_rfl) (fun _ _ _ h => h) (Y.bin rfl rfl rfl (br_quoN (n := 4) (by omega) (by omega))) ?_
    refine TA.take 7 rfl rfl rfl rfl (by kernel_rfl) (by kernel_rfl) (by kernel_rfl) rfl (by kernel_rfl) (by kernel_rfl) (fun _ _ _ h => h) (Y.move rfl rfl) ?_
    refine TA.take 8 rfl rfl rfl rfl (by kernel_rfl) (by kernel_rfl) (by kernel_rfl) rfl (by kernel_rfl) (by kernel_rfl) (fun _ _ _ h => h) (Y.bin rfl rfl rfl (br_remN (n := 4) (by omega))) ?_
    refine TA.take 9 rfl rfl rfl rfl (by kernel_rfl) (by kernel_rfl) (by kernel_rfl) rfl (by kernel_rfl) (by kernel_rfl) (fun _ _ _ h => h) (Y.nilCheck rfl rfl) ?_
    refine TA.take 10 rfl rfl rfl rfl (by kernel_rfl) (by kernel_rfl) (by kernel_rfl) rfl (by kernel_rfl) (by kernel_rfl) (fun _ _ _ h => h) (Y.indexArr rfl ar37 rfl rfl (by omega) (by ((try simp only [Nat.zero_add, Nat.add_zero, Nat.mul_one, Nat.one_mul, Nat.mul_zero, Nat.zero_mul]) <;> rfl))) ?_
    refine TA.take 11 rfl rfl rfl rfl (by kernel_rfl) (by kernel_rfl) (by kernel_rfl) rfl (by kernel_rfl) (by kernel_rfl) (fun _ _ _ h => h) (Y.indexArr rfl ar36 rfl rfl (by omega) (by ((try simp only [Nat.zero_add, Nat.add_zero, Nat.mul_one, Nat.one_mul, Nat.mul_zero, Nat.zero_mul]) <;> rfl))) ?_
    refine TA.take 12 rfl rfl rfl rfl (by kernel_rfl) (by kernel_rfl) (by kernel_rfl) rfl (by kernel_rfl) (by kernel_rfl) (fun _ _ _ h => h) (Y.load rfl sc5 rfl (by first | exact Cel.blk (by with_reducible (repeat first | exact In.here | apply In.there)) (by first | exact getM (d := (0 : UInt8)) (by ((try simp only [List.length_set, List.length_map, List.length_append, List.length_replicate, List.size_toArray]); omega)) | rfl) | exact Cel.rblk (by with_reducible (repeat first | exact In.here | apply In.there)) (by first | exact getM (d := (0 : UInt8)) (by ((try simp only [List.length_set, List.length_map, List.length_append, List.length_replicate, List.size_toArray]); omega)) | rfl) | exact Cel.rds (by with_reducible (repeat first | exact In.here | apply In.there)) (getML (d := (0 : UInt8)) (by ((try simp only [List.length_set, List.length_map, List.length_append, List.length_replicate, List.size_toArray]); omega))) | exact Cel.owns (by with_reducible (repeat first | exact In.here | apply In.there)) (getML (d := (0 : UInt8)) (by ((try simp only [List.length_set, List.length_map, List.length_append, List.length_replicate, List.size_toArray]); omega))) | exact Cel.reads (by assumption) (by with_reducible (repeat first | exact In.here | apply In.there)) (getML (d := (0 : UInt8)) (by ((try simp only [List.length_set, List.length_map, List.length_append, List.length_replicate, List.size_toArray]); omega))))) ?_
    refine TA.take 13 rfl rfl rfl rfl (by kernel_rfl) (by kernel_rfl) (by kernel_rfl) rfl (by kernel_rfl) (by kernel_rfl) (fun _ _ _ h => h) (Y.bin rfl rfl rfl (br_xor8)) ?_
    refine TA.take 14 rfl rfl rfl rfl (by kernel_rfl) (by kernel_rfl) (by kernel_rfl) rfl (by kernel_rfl) (by kernel_rfl) (fun _ _ _ h => h) (Y.indexArr rfl ar22 rfl rfl (by omega) (by ((try simp only [Nat.zero_add, Nat.add_zero, Nat.mul_one, Nat.one_mul, Nat.mul_zero, Nat.zero_mul]) <;> rfl))) ?_
    refine TA.one0 15 (by kernel_rfl) rfl rfl rfl (by first | exact X.store rfl sz5 rfl rfl rfl (by first | (with_reducible (repeat first | exact Pull.here | apply Pull.there); done) | (repeat first | exact Pull.here | apply Pull.there)) (by ((try simp only [List.length_set, List.length_map, List.length_append, List.length_replicate, List.size_toArray]); omega)) (by first | exact setM | rfl) | exact X.storeOwn rfl sz5 rfl (Nat.zero_add _).symm rfl rfl (by first | (with_reducible (repeat first | exact Pull.here | apply Pull.there); done) | (repeat first | exact Pull.here | apply Pull.there)) (by ((try simp only [List.length_set, List.length_map, List.length_append, List.length_replicate, List.size_toArray]); omega)) (by first | exact setML | rfl)) ?_
    rintro _ _ rfl
    refine ⟨(Or.inl (by kernel_rfl)), ?_⟩
    refine TA.done (by kernel_rfl) ?_
    refine TQ.block_normal ?_
    refine TQ.next ?_
    refine TC.region ?_
    refine TL.val rfl rfl rfl (Y.bin rfl rfl rfl (br_addN (n := 1) (by omega))) ?_
    refine TL.val rfl rfl rfl (Y.move rfl rfl) ?_
    refine TL.nil ?_
    rw [show k / 4 * 4 + k % 4 = 0 + k by omega, xk_s _ _ _ _ c0]
    refine TQ.loopF (k + 1) (by omega) (by omega) ⟨rfl, trivial⟩ (by (repeat first | exact Grow.refl | apply Grow.step | apply Grow.app)) ?_ ?_ ?_
    · kernel_rfl
    · rfl
    · simp only [List.cons_append, List.nil_append]
      exact (by (repeat first | (with_reducible exact Ent.refl) | (with_reducible exact Ent.nil) | refine Ent.cons (by first | (with_reducible (repeat first | exact Pull.here | apply Pull.there); done) | (repeat first | exact Pull.here | apply Pull.there)) ?_ | refine Ent.skip ?_))
  · try simp only [decide_eq_true_eq, decide_eq_false_iff_not, Bool.not_eq_true', Bool.not_eq_false', Bool.and_eq_true, Bool.or_eq_true, Nat.not_lt, Nat.not_le, beq_iff_eq, bne_iff_ne] at c0
    refine TC.exit ?_
    refine TQ.then_exit ?_
    refine TQ.then_exit ?_
    refine TQ.block_exit ?_
    refine TQ.next ?_
    refine TC.seq ?_
    refine TC.seq ?_
    obtain rfl : k = 16 := by omega
    rw [xk_wL]
    refine TC.region ?_
    refine TL.val rfl rfl rfl (Y.assign rfl rfl) ?_
    refine TL.nil ?_
    refine TQ.next ?_
    refine TC.block ?_
    refine TC.loopF (ι := Nat) [] (fun j => j ≤ 10) (fun j => [(8, some (vN (j + 1)))]) (fun j => [SA.blk b5 ((tab 16 (rnds key s j)).map v8).toArray 22]) (fun j => 10 - j) (0) (by omega) ⟨rfl, trivial⟩ (Pulls.cons (by first | (with_reducible (repeat first | exact Pull.here | apply Pull.there); done) | (repeat first | exact Pull.here | apply Pull.there)) Pulls.nil) ?_
    rintro j hj F' L' rfl hL'
    simp only [List.cons_append, List.nil_append] at hL'
    subst hL'
    generalize hS : rnds key s j = S
    have ht : (tab 16 S).length = 16 := tab_len
    refine TC.seq ?_
    refine TC.seq ?_
    refine TC.region ?_
    refine TL.val rfl rfl rfl (Y.move rfl rfl) ?_
    refine TL.val rfl rfl rfl (Y.bin rfl rfl rfl (br_leN (n := 10))) ?_
    refine TL.nil ?_
    refine TQ.next ?_
    refine TC.cond rfl (fun c1 => ?_) (fun c1 => ?_)
    · try simp only [decide_eq_true_eq, decide_eq_false_iff_not, Bool.not_eq_true', Bool.not_eq_false', Bool.and_eq_true, Bool.or_eq_true, Nat.not_lt, Nat.not_le, beq_iff_eq, bne_iff_ne] at c1
      refine TC.skip ?_
      refine TQ.next ?_
      refine TC.seq ?_
      refine TC.block ?_
      refine TC.seq ?_
      refine TC.region ?_
      refine TL.eff rfl rfl rfl (X.alloc rfl zc22) ?_
      rintro _ _ ⟨b9, rfl, rfl⟩
      refine TL.nil ?_
      refine TQ.next ?_
      refine TC.seq ?_
      refine TC.seq ?_
      refine TC.region ?_
      refine TL.val rfl rfl rfl (Y.move rfl rfl) ?_
      refine TL.nil ?_
      refine TQ.next ?_
      refine TC.block ?_
      refine TC.loopF (ι := Nat) [] (fun c => c ≤ 4) (fun c => [(38, some (vN c))]) (fun c => [SA.blk b9 ((subK S (4 * c)).map v8).toArray 22]) (fun c => 4 - c) (0) (by omega) ⟨rfl, trivial⟩ (by rw [← subK_0]; exact Pulls.cons (by first | (with_reducible (repeat first | exact Pull.here | apply Pull.there); done) | (repeat first | exact Pull.here | apply Pull.there)) Pulls.nil) ?_
      rintro c hc F' L' rfl hL'
      simp only [List.cons_append, List.nil_append] at hL'
      subst hL'
      refine TC.seq ?_
      refine TC.region ?_
      refine TL.val rfl rfl rfl (Y.bin rfl rfl rfl (br_ltN (n := 4))) ?_
      refine TL.nil ?_
      refine TQ.next ?_
      refine TC.seq ?_
      refine TC.cond rfl (fun c2 => ?_) (fun c2 => ?_)
      · try simp only [decide_eq_true_eq, decide_eq_false_iff_not, Bool.not_eq_true', Bool.not_eq_false', Bool.and_eq_true, Bool.or_eq_true, Nat.not_lt, Nat.not_le, beq_iff_eq, bne_iff_ne] at c2
        refine TC.skip ?_
        refine TQ.next ?_
        refine TC.seq ?_
        refine TC.block ?_
        refine TC.seq ?_
        refine TC.region ?_
        refine TL.val rfl rfl rfl (Y.move rfl rfl) ?_
        refine TL.val rfl rfl rfl (Y.assign rfl rfl) ?_
        refine TL.nil ?_
        refine TQ.next ?_
        refine TC.seq ?_
        refine TC.region ?_
        refine TL.val rfl rfl rfl (Y.move rfl rfl) ?_
        refine TL.nil ?_
        refine TQ.next ?_
        refine TC.block ?_
        refine TC.loopF (ι := Nat) [] (fun i => i ≤ 4) (fun i => [(41, some (vN i))]) (fun i => [SA.blk b9 ((subK S (4 * c + i)).map v8).toArray 22]) (fun i => 4 - i) (0) (by omega) ⟨rfl, trivial⟩ (Pulls.cons (by first | (with_reducible (repeat first | exact Pull.here | apply Pull.there); done) | (repeat first | exact Pull.here | apply Pull.there)) Pulls.nil) ?_
        rintro i hi F' L' rfl hL'
        simp only [List.cons_append, List.nil_append] at hL'
        subst hL'
        have hl6 := subK_len S (4 * c + i)
        have hx := ((tab 16 S).getD (4 * ((c + i) % 4) + i) 0).toNat_lt
        refine TC.seq ?_
        refine TC.region ?_
        refine TL.val rfl rfl rfl (Y.bin rfl rfl rfl (br_ltN (n := 4))) ?_
        refine TL.nil ?_
        refine TQ.next ?_
        refine TC.seq ?_
        refine TC.cond rfl (fun c3 => ?_) (fun c3 => ?_)
        · try simp only [decide_eq_true_eq, decide_eq_false_iff_not, Bool.not_eq_true', Bool.not_eq_false', Bool.and_eq_true, Bool.or_eq_true, Nat.not_lt, Nat.not_le, beq_iff_eq, bne_iff_ne] at c3
          refine TC.skip ?_
          refine TQ.next ?_
          refine TC.seq ?_
          refine TC.block ?_
          refine TC.seq ?_
          refine TC.region ?_
          refine TL.val rfl rfl rfl (Y.move rfl rfl) ?_
          refine TL.val rfl rfl rfl (Y.assign rfl rfl) ?_
          refine TL.nil ?_
          refine TQ.next ?_
          refine TC.draws 18 _ (by kernel_rfl) (fun _ h => h) ?_
          refine TA.take 0 rfl rfl rfl rfl (by kernel_rfl) (by kernel_rfl) (by kernel_rfl) rfl (by kernel_rfl) (by kernel_rfl) (fun _ _ _ h => h) (Y.move rfl rfl) ?_
          refine TA.take 1 rfl rfl rfl rfl (by kernel_rfl) (by kernel_rfl) (by kernel_rfl) rfl (by kernel_rfl) (by kernel_rfl) (fun _ _ _ h => h) (Y.bin rfl rfl rfl (br_mulN (m := 4) (by omega))) ?_
          refine TA.take 2 rfl rfl rfl rfl (by kernel_rfl) (by kernel_rfl) (by kernel_rfl) rfl (by kernel_rfl) (by kernel_rfl) (fun _ _ _ h => h) (Y.move rfl rfl) ?_
          refine TA.take 3 rfl rfl rfl rfl (by kernel_rfl) (by kernel_rfl) (by kernel_rfl) rfl (by kernel_rfl) (by kernel_rfl) (fun _ _ _ h => h) (Y.bin rfl rfl rfl (br_addN (by omega))) ?_
          refine TA.take 4 rfl rfl rfl rfl (by kernel_rfl) (by kernel_rfl) (by kernel_rfl) rfl (by kernel_rfl) (by kernel_rfl) (fun _ _ _ h => h) (Y.move rfl rfl) ?_
          refine TA.take 5 rfl rfl rfl rfl (by kernel_rfl) (by kernel_rfl) (by kernel_rfl) rfl (by kernel_rfl) (by kernel_rfl) (fun _ _ _ h => h) (Y.move rfl rfl) ?_
          refine TA.take 6 rfl rfl rfl rfl (by kernel_rfl) (by kernel_rfl) (by kernel_rfl) rfl (by kernel_rfl) (by kernel_rfl) (fun _ _ _ h => h) (Y.move rfl rfl) ?_
          refine TA.take 7 rfl rfl rfl rfl (by kernel_rfl) (by kernel_rfl) (by kernel_rfl) rfl (by kernel_rfl) (by kernel_rfl) (fun _ _ _ h => h) (Y.bin rfl rfl rfl (br_addN (by omega))) ?_
          refine TA.take 8 rfl rfl rfl rfl (by kernel_rfl) (by kernel_rfl) (by kernel_rfl) rfl (by kernel_rfl) (by kernel_rfl) (fun _ _ _ h => h) (Y.bin rfl rfl rfl (br_remN (n := 4) (by omega))) ?_
          refine TA.take 9 rfl rfl rfl rfl (by kernel_rfl) (by kernel_rfl) (by kernel_rfl) rfl (by kernel_rfl) (by kernel_rfl) (fun _ _ _ h => h) (Y.bin rfl rfl rfl (br_mulN (m := 4) (by omega))) ?_
          refine TA.take 10 rfl rfl rfl rfl (by kernel_rfl) (by kernel_rfl) (by kernel_rfl) rfl (by kernel_rfl) (by kernel_rfl) (fun _ _ _ h => h) (Y.move rfl rfl) ?_
          refine TA.take 11 rfl rfl rfl rfl (by kernel_rfl) (by kernel_rfl) (by kernel_rfl) rfl (by kernel_rfl) (by kernel_rfl) (fun _ _ _ h => h) (Y.bin rfl rfl rfl (br_addN (by omega))) ?_
          refine TA.take 12 rfl rfl rfl rfl (by kernel_rfl) (by kernel_rfl) (by kernel_rfl) rfl (by kernel_rfl) (by kernel_rfl) (fun _ _ _ h => h) (Y.indexArr rfl ar22 rfl rfl (by omega) (by ((try simp only [Nat.zero_add, Nat.add_zero, Nat.mul_one, Nat.one_mul, Nat.mul_zero, Nat.zero_mul]) <;> rfl))) ?_
          refine TA.take 13 rfl rfl rfl rfl (by kernel_rfl) (by kernel_rfl) (by kernel_rfl) rfl (by kernel_rfl) (by kernel_rfl) (fun _ _ _ h => h) (Y.load rfl sc5 rfl (by first | exact Cel.blk (by with_reducible (repeat first | exact In.here | apply In.there)) (by first | exact getM (d := (0 : UInt8)) (by ((try simp only [List.length_set, List.length_map, List.length_append, List.length_replicate, List.size_toArray]); omega)) | rfl) | exact Cel.rblk (by with_reducible (repeat first | exact In.here | apply In.there)) (by first | exact getM (d := (0 : UInt8)) (by ((try simp only [List.length_set, List.length_map, List.length_append, List.length_replicate, List.size_toArray]); omega)) | rfl) | exact Cel.rds (by with_reducible (repeat first | exact In.here | apply In.there)) (getML (d := (0 : UInt8)) (by ((try simp only [List.length_set, List.length_map, List.length_append, List.length_replicate, List.size_toArray]); omega))) | exact Cel.owns (by with_reducible (repeat first | exact In.here | apply In.there)) (getML (d := (0 : UInt8)) (by ((try simp only [List.length_set, List.length_map, List.length_append, List.length_replicate, List.size_toArray]); omega))) | exact Cel.reads (by assumption) (by with_reducible (repeat first | exact In.here | apply In.there)) (getML (d := (0 : UInt8)) (by ((try simp only [List.length_set, List.length_map, List.length_append, List.length_replicate, List.size_toArray]); omega))))) ?_
          refine TA.take 14 rfl rfl rfl rfl (by kernel_rfl) (by kernel_rfl) (by kernel_rfl) rfl (by kernel_rfl) (by kernel_rfl) (fun _ _ _ h => h) (Y.nilCheck rfl rfl) ?_
          refine TA.take 15 rfl rfl rfl rfl (by kernel_rfl) (by kernel_rfl) (by kernel_rfl) rfl (by kernel_rfl) (by kernel_rfl) (fun _ _ _ h => h) (Y.indexArr rfl ar34 rfl rfl (by omega) (by ((try simp only [Nat.zero_add, Nat.add_zero, Nat.mul_one, Nat.one_mul, Nat.mul_zero, Nat.zero_mul]) <;> rfl))) ?_
          refine TA.take 16 rfl rfl rfl rfl (by kernel_rfl) (by kernel_rfl) (by kernel_rfl) rfl (by kernel_rfl) (by kernel_rfl) (fun _ _ _ h => h) (Y.load rfl sc5 rfl (by first | exact Cel.blk (by with_reducible (repeat first | exact In.here | apply In.there)) (by first | exact getM (d := (0 : UInt8)) (by ((try simp only [List.length_set, List.length_map, List.length_append, List.length_replicate, List.size_toArray]); omega)) | rfl) | exact Cel.rblk (by with_reducible (repeat first | exact In.here | apply In.there)) (by first | exact getM (d := (0 : UInt8)) (by ((try simp only [List.length_set, List.length_map, List.length_append, List.length_replicate, List.size_toArray]); omega)) | rfl) | exact Cel.rds (by with_reducible (repeat first | exact In.here | apply In.there)) (getML (d := (0 : UInt8)) (by ((try simp only [List.length_set, List.length_map, List.length_append, List.length_replicate, List.size_toArray]); omega))) | exact Cel.owns (by with_reducible (repeat first | exact In.here | apply In.there)) (getML (d := (0 : UInt8)) (by ((try simp only [List.length_set, List.length_map, List.length_append, List.length_replicate, List.size_toArray]); omega))) | exact Cel.reads (by assumption) (by with_reducible (repeat first | exact In.here | apply In.there)) (getML (d := (0 : UInt8)) (by ((try simp only [List.length_set, List.length_map, List.length_append, List.length_replicate, List.size_toArray]); omega))))) ?_
          refine TA.take 17 rfl rfl rfl rfl (by kernel_rfl) (by kernel_rfl) (by kernel_rfl) rfl (by kernel_rfl) (by kernel_rfl) (fun _ _ _ h => h) (Y.indexArr rfl ar22 rfl rfl (by omega) (by ((try simp only [Nat.zero_add, Nat.add_zero, Nat.mul_one, Nat.one_mul, Nat.mul_zero, Nat.zero_mul]) <;> rfl))) ?_
          refine TA.one0 18 (by kernel_rfl) rfl rfl rfl (by first | exact X.store rfl sz5 rfl rfl rfl (by first | (with_reducible (repeat first | exact Pull.here | apply Pull.there); done) | (repeat first | exact Pull.here | apply Pull.there)) (by ((try simp only [List.length_set, List.length_map, List.length_append, List.length_replicate, List.size_toArray]); omega)) (by first | exact setM | rfl) | exact X.storeOwn rfl sz5 rfl (Nat.zero_add _).symm rfl rfl (by first | (with_reducible (repeat first | exact Pull.here | apply Pull.there); done) | (repeat first | exact Pull.here | apply Pull.there)) (by ((try simp only [List.length_set, List.length_map, List.length_append, List.length_replicate, List.size_toArray]); omega)) (by first | exact setML | rfl)) ?_
          rintro _ _ rfl
          refine ⟨(Or.inl (by kernel_rfl)), ?_⟩
          refine TA.done (by kernel_rfl) ?_
          refine TQ.block_normal ?_
          refine TQ.next ?_
          refine TC.region ?_
          refine TL.val rfl rfl rfl (Y.bin rfl rfl rfl (br_addN (n := 1) (by omega))) ?_
          refine TL.val rfl rfl rfl (Y.move rfl rfl) ?_
          refine TL.nil ?_
          rw [subK_r S c i (by omega) (by omega)]
          refine TQ.loopF (i + 1) (by omega) (by omega) ⟨rfl, trivial⟩ (by (repeat first | exact Grow.refl | apply Grow.step | apply Grow.app)) ?_ ?_ ?_
          · kernel_rfl
          · rfl
          · simp only [List.cons_append, List.nil_append]
            exact (by (repeat first | (with_reducible exact Ent.refl) | (with_reducible exact Ent.nil) | refine Ent.cons (by first | (with_reducible (repeat first | exact Pull.here | apply Pull.there); done) | (repeat first | exact Pull.here | apply Pull.there)) ?_ | refine Ent.skip ?_))
        · try simp only [decide_eq_true_eq, decide_eq_false_iff_not, Bool.not_eq_true', Bool.not_eq_false', Bool.and_eq_true, Bool.or_eq_true, Nat.not_lt, Nat.not_le, beq_iff_eq, bne_iff_ne] at c3
          refine TC.exit ?_
          refine TQ.then_exit ?_
          refine TQ.then_exit ?_
          refine TQ.block_exit ?_
          refine TQ.block_normal ?_
          refine TQ.next ?_
          refine TC.region ?_
          refine TL.val rfl rfl rfl (Y.bin rfl rfl rfl (br_addN (n := 1) (by omega))) ?_
          refine TL.val rfl rfl rfl (Y.move rfl rfl) ?_
          refine TL.nil ?_
          obtain rfl : i = 4 := by omega
          rw [show 4 * c + 4 = 4 * (c + 1) by omega]
          refine TQ.loopF (c + 1) (by omega) (by omega) ⟨rfl, trivial⟩ (by (repeat first | exact Grow.refl | apply Grow.step | apply Grow.app)) ?_ ?_ ?_
          · kernel_rfl
          · rfl
          · simp only [List.cons_append, List.nil_append]
            exact (by (repeat first | (with_reducible exact Ent.refl) | (with_reducible exact Ent.nil) | refine Ent.cons (by first | (with_reducible (repeat first | exact Pull.here | apply Pull.there); done) | (repeat first | exact Pull.here | apply Pull.there)) ?_ | refine Ent.skip ?_))
      · try simp only [decide_eq_true_eq, decide_eq_false_iff_not, Bool.not_eq_true', Bool.not_eq_false', Bool.and_eq_true, Bool.or_eq_true, Nat.not_lt, Nat.not_le, beq_iff_eq, bne_iff_ne] at c2
        refine TC.exit ?_
        refine TQ.then_exit ?_
        refine TQ.then_exit ?_
        refine TQ.block_exit ?_
        refine TQ.next ?_
        refine TC.seq ?_
        obtain rfl : c = 4 := by omega
        rw [show subK S (4 * 4) = tab 16 (subS S) from subK_16 S]
        generalize hU : subS S = U
        have hu : (tab 16 U).length = 16 := tab_len
        generalize hV : (if j + 1 < 10 then mixS U else U) = V
        refine TC.region ?_
        refine TL.val rfl rfl rfl (Y.move rfl rfl) ?_
        refine TL.nil ?_
        refine TQ.next ?_
        refine TC.block ?_
        refine TC.loopF (ι := Nat) [] (fun c => c ≤ 4) (fun c => [(64, some (vN c))]) (fun c => [SA.blk b5 ((stK key S V (j + 1) (4 * c)).map v8).toArray 22]) (fun c => 4 - c) (0) (by omega) ⟨rfl, trivial⟩ (by rw [stK_0 key S V (j + 1)]; exact Pulls.cons (by first | (with_reducible (repeat first | exact Pull.here | apply Pull.there); done) | (repeat first | exact Pull.here | apply Pull.there)) Pulls.nil) ?_
        rintro c hc8 F' L' rfl hL'
        simp only [List.cons_append, List.nil_append] at hL'
        subst hL'
        refine TC.seq ?_
        refine TC.region ?_
        refine TL.val rfl rfl rfl (Y.bin rfl rfl rfl (br_ltN (n := 4))) ?_
        refine TL.nil ?_
        refine TQ.next ?_
        refine TC.seq ?_
        refine TC.cond rfl (fun c4 => ?_) (fun c4 => ?_)
        · try simp only [decide_eq_true_eq, decide_eq_false_iff_not, Bool.not_eq_true', Bool.not_eq_false', Bool.and_eq_true, Bool.or_eq_true, Nat.not_lt, Nat.not_le, beq_iff_eq, bne_iff_ne] at c4
          refine TC.skip ?_
          refine TQ.next ?_
          refine TC.seq ?_
          refine TC.block ?_
          refine TC.seq ?_
          refine TC.region ?_
          refine TL.val rfl rfl rfl (Y.move rfl rfl) ?_
          refine TL.val rfl rfl rfl (Y.assign rfl rfl) ?_
          refine TL.nil ?_
          refine TQ.next ?_
          refine TC.seq ?_
          refine TC.region ?_
          refine TL.val rfl rfl rfl (Y.move rfl rfl) ?_
          refine TL.nil ?_
          refine TQ.next ?_
          refine TC.block ?_
          refine TC.loopF (ι := Nat) [] (fun i => i ≤ 4) (fun i => [(67, some (vN i))]) (fun i => [SA.blk b5 ((stK key S V (j + 1) (4 * c + i)).map v8).toArray 22]) (fun i => 4 - i) (0) (by omega) ⟨rfl, trivial⟩ (Pulls.cons (by first | (with_reducible (repeat first | exact Pull.here | apply Pull.there); done) | (repeat first | exact Pull.here | apply Pull.there)) Pulls.nil) ?_
          rintro i hi10 F' L' rfl hL'
          simp only [List.cons_append, List.nil_append] at hL'
          subst hL'
          have hl10 := stK_len key S V (j + 1) (4 * c + i)
          refine TC.seq ?_
          refine TC.region ?_
          refine TL.val rfl rfl rfl (Y.bin rfl rfl rfl (br_ltN (n := 4))) ?_
          refine TL.nil ?_
          refine TQ.next ?_
          refine TC.seq ?_
          refine TC.cond rfl (fun c5 => ?_) (fun c5 => ?_)
          · try simp only [decide_eq_true_eq, decide_eq_false_iff_not, Bool.not_eq_true', Bool.not_eq_false', Bool.and_eq_true, Bool.or_eq_true, Nat.not_lt, Nat.not_le, beq_iff_eq, bne_iff_ne] at c5
            refine TC.skip ?_
            refine TQ.next ?_
            refine TC.seq ?_
            refine TC.block ?_
            refine TC.seq ?_
            refine TC.region ?_
            refine TL.val rfl rfl rfl (Y.move rfl rfl) ?_
            refine TL.val rfl rfl rfl (Y.assign rfl rfl) ?_
            refine TL.nil ?_
            refine TQ.next ?_
            refine TC.seq ?_
            refine TC.region ?_
            refine TL.val rfl rfl rfl (Y.move rfl rfl) ?_
            refine TL.val rfl rfl rfl (Y.bin rfl rfl rfl (br_mulN (m := 4) (by omega))) ?_
            refine TL.val rfl rfl rfl (Y.move rfl rfl) ?_
            refine TL.val rfl rfl rfl (Y.bin rfl rfl rfl (br_addN (by omega))) ?_
            refine TL.val rfl rfl rfl (Y.indexArr rfl ar22 rfl rfl (by omega) (by ((try simp only [Nat.zero_add, Nat.add_zero, Nat.mul_one, Nat.one_mul, Nat.mul_zero, Nat.zero_mul]) <;> rfl))) ?_
            refine TL.val rfl rfl rfl (Y.load rfl sc5 rfl (by first | exact Cel.blk (by with_reducible (repeat first | exact In.here | apply In.there)) (by first | exact getM (d := (0 : UInt8)) (by ((try simp only [List.length_set, List.length_map, List.length_append, List.length_replicate, List.size_toArray]); omega)) | rfl) | exact Cel.rblk (by with_reducible (repeat first | exact In.here | apply In.there)) (by first | exact getM (d := (0 : UInt8)) (by ((try simp only [List.length_set, List.length_map, List.length_append, List.length_replicate, List.size_toArray]); omega)) | rfl) | exact Cel.rds (by with_reducible (repeat first | exact In.here | apply In.there)) (getML (d := (0 : UInt8)) (by ((try simp only [List.length_set, List.length_map, List.length_append, List.length_replicate, List.size_toArray]); omega))) | exact Cel.owns (by with_reducible (repeat first | exact In.here | apply In.there)) (getML (d := (0 : UInt8)) (by ((try simp only [List.length_set, List.length_map, List.length_append, List.length_replicate, List.size_toArray]); omega))) | exact Cel.reads (by assumption) (by with_reducible (repeat first | exact In.here | apply In.there)) (getML (d := (0 : UInt8)) (by ((try simp only [List.length_set, List.length_map, List.length_append, List.length_replicate, List.size_toArray]); omega))))) ?_
            refine TL.val rfl rfl rfl (Y.assign rfl rfl) ?_
            refine TL.nil ?_
            rw [tab_getD (show 4 * c + i < 16 by omega)]
            refine TQ.next ?_
            refine TC.cutF (ι := Unit) [] (fun _ => True) (fun _ => [(14, some (v8 (V (4 * c + i))))]) (fun _ => []) (Ao := []) Pulls.nil ?_ ?_
            · rintro L' hL'
              simp only [List.cons_append, List.nil_append] at hL'
              subst hL'
              refine TC.seq ?_
              refine TC.region ?_
              refine TL.val rfl rfl rfl (Y.move rfl rfl) ?_
              refine TL.val rfl rfl rfl (Y.bin rfl rfl rfl (br_ltN (n := 10))) ?_
              refine TL.nil ?_
              refine TQ.next ?_
              refine TC.cond rfl (fun c6 => ?_) (fun c6 => ?_)
              · try simp only [decide_eq_true_eq, decide_eq_false_iff_not, Bool.not_eq_true', Bool.not_eq_false', Bool.and_eq_true, Bool.or_eq_true, Nat.not_lt, Nat.not_le, beq_iff_eq, bne_iff_ne] at c6
                refine TC.draws 36 _ (by kernel_rfl) (fun _ h => h) ?_
                refine TA.take 0 rfl rfl rfl rfl (by kernel_rfl) (by kernel_rfl) (by kernel_rfl) rfl (by kernel_rfl) (by kernel_rfl) (fun _ _ _ h => h) (Y.move rfl rfl) ?_
                refine TA.take 1 rfl rfl rfl rfl (by kernel_rfl) (by kernel_rfl) (by kernel_rfl) rfl (by kernel_rfl) (by kernel_rfl) (fun _ _ _ h => h) (Y.bin rfl rfl rfl (br_mulN (m := 4) (by omega))) ?_
                refine TA.take 2 rfl rfl rfl rfl (by kernel_rfl) (by kernel_rfl) (by kernel_rfl) rfl (by kernel_rfl) (by kernel_rfl) (fun _ _ _ h => h) (Y.move rfl rfl) ?_
                refine TA.take 3 rfl rfl rfl rfl (by kernel_rfl) (by kernel_rfl) (by kernel_rfl) rfl (by kernel_rfl) (by kernel_rfl) (fun _ _ _ h => h) (Y.bin rfl rfl rfl (br_addN (by omega))) ?_
                refine TA.take 4 rfl rfl rfl rfl (by kernel_rfl) (by kernel_rfl) (by kernel_rfl) rfl (by kernel_rfl) (by kernel_rfl) (fun _ _ _ h => h) (Y.indexArr rfl ar22 rfl rfl (by omega) (by ((try simp only [Nat.zero_add, Nat.add_zero, Nat.mul_one, Nat.one_mul, Nat.mul_zero, Nat.zero_mul]) <;> rfl))) ?_
                refine TA.take 5 rfl rfl rfl rfl (by kernel_rfl) (by kernel_rfl) (by kernel_rfl) rfl (by kernel_rfl) (by kernel_rfl) (fun _ _ _ h => h) (Y.load rfl sc5 rfl (by first | exact Cel.blk (by with_reducible (repeat first | exact In.here | apply In.there)) (by first | exact getM (d := (0 : UInt8)) (by ((try simp only [List.length_set, List.length_map, List.length_append, List.length_replicate, List.size_toArray]); omega)) | rfl) | exact Cel.rblk (by with_reducible (repeat first | exact In.here | apply In.there)) (by first | exact getM (d := (0 : UInt8)) (by ((try simp only [List.length_set, List.length_map, List.length_append, List.length_replicate, List.size_toArray]); omega)) | rfl) | exact Cel.rds (by with_reducible (repeat first | exact In.here | apply In.there)) (getML (d := (0 : UInt8)) (by ((try simp only [List.length_set, List.length_map, List.length_append, List.length_replicate, List.size_toArray]); omega))) | exact Cel.owns (by with_reducible (repeat first | exact In.here | apply In.there)) (getML (d := (0 : UInt8)) (by ((try simp only [List.length_set, List.length_map, List.length_append, List.length_replicate, List.size_toArray]); omega))) | exact Cel.reads (by assumption) (by with_reducible (repeat first | exact In.here | apply In.there)) (getML (d := (0 : UInt8)) (by ((try simp only [List.length_set, List.length_map, List.length_append, List.length_replicate, List.size_toArray]); omega))))) ?_
                refine TA.take 7 rfl rfl rfl rfl (by kernel_rfl) (by kernel_rfl) (by kernel_rfl) rfl (by kernel_rfl) (by kernel_rfl) (fun _ _ _ h => h) (Y.move rfl rfl) ?_
                refine TA.take 8 rfl rfl rfl rfl (by kernel_rfl) (by kernel_rfl) (by kernel_rfl) rfl (by kernel_rfl) (by kernel_rfl) (fun _ _ _ h => h) (Y.bin rfl rfl rfl (br_mulN (m := 4) (by omega))) ?_
                refine TA.take 9 rfl rfl rfl rfl (by kernel_rfl) (by kernel_rfl) (by kernel_rfl) rfl (by kernel_rfl) (by kernel_rfl) (fun _ _ _ h => h) (Y.move rfl rfl) ?_
                refine TA.take 10 rfl rfl rfl rfl (by kernel_rfl) (by kernel_rfl) (by kernel_rfl) rfl (by kernel_rfl) (by kernel_rfl) (fun _ _ _ h => h) (Y.bin rfl rfl rfl (br_addN (n := 1) (by omega))) ?_
                refine TA.take 11 rfl rfl rfl rfl (by kernel_rfl) (by kernel_rfl) (by kernel_rfl) rfl (by kernel_rfl) (by kernel_rfl) (fun _ _ _ h => h) (Y.bin rfl rfl rfl (br_remN (n := 4) (by omega))) ?_
                refine TA.take 12 rfl rfl rfl rfl (by kernel_rfl) (by kernel_rfl) (by kernel_rfl) rfl (by kernel_rfl) (by kernel_rfl) (fun _ _ _ h => h) (Y.bin rfl rfl rfl (br_addN (by omega))) ?_
                refine TA.take 13 rfl rfl rfl rfl (by kernel_rfl) (by kernel_rfl) (by kernel_rfl) rfl (by kernel_rfl) (by kernel_rfl) (fun _ _ _ h => h) (Y.indexArr rfl ar22 rfl rfl (by omega) (by ((try simp only [Nat.zero_add, Nat.add_zero, Nat.mul_one, Nat.one_mul, Nat.mul_zero, Nat.zero_mul]) <;> rfl))) ?_
                refine TA.take 14 rfl rfl rfl rfl (by kernel_rfl) (by kernel_rfl) (by kernel_rfl) rfl (by kernel_rfl) (by kernel_rfl) (fun _ _ _ h => h) (Y.load rfl sc5 rfl (by first | exact Cel.blk (by with_reducible (repeat first | exact In.here | apply In.there)) (by first | exact getM (d := (0 : UInt8)) (by ((try simp only [List.length_set, List.length_map, List.length_append, List.length_replicate, List.size_toArray]); omega)) | rfl) | exact Cel.rblk (by with_reducible (repeat first | exact In.here | apply In.there)) (by first | exact getM (d := (0 : UInt8)) (by ((try simp only [List.length_set, List.length_map, List.length_append, List.length_replicate, List.size_toArray]); omega)) | rfl) | exact Cel.rds (by with_reducible (repeat first | exact In.here | apply In.there)) (getML (d := (0 : UInt8)) (by ((try simp only [List.length_set, List.length_map, List.length_append, List.length_replicate, List.size_toArray]); omega))) | exact Cel.owns (by with_reducible (repeat first | exact In.here | apply In.there)) (getML (d := (0 : UInt8)) (by ((try simp only [List.length_set, List.length_map, List.length_append, List.length_replicate, List.size_toArray]); omega))) | exact Cel.reads (by assumption) (by with_reducible (repeat first | exact In.here | apply In.there)) (getML (d := (0 : UInt8)) (by ((try simp only [List.length_set, List.length_map, List.length_append, List.length_replicate, List.size_toArray]); omega))))) ?_
                refine TA.take 17 rfl rfl rfl rfl (by kernel_rfl) (by kernel_rfl) (by kernel_rfl) rfl (by kernel_rfl) (by kernel_rfl) (fun _ _ _ h => h) (Y.move rfl rfl) ?_
                refine TA.take 18 rfl rfl rfl rfl (by kernel_rfl) (by kernel_rfl) (by kernel_rfl) rfl (by kernel_rfl) (by kernel_rfl) (fun _ _ _ h => h) (Y.bin rfl rfl rfl (br_mulN (m := 4) (by omega))) ?_
                refine TA.take 19 rfl rfl rfl rfl (by kernel_rfl) (by kernel_rfl) (by kernel_rfl) rfl (by kernel_rfl) (by kernel_rfl) (fun _ _ _ h => h) (Y.move rfl rfl) ?_
                refine TA.take 20 rfl rfl rfl rfl (by kernel_rfl) (by kernel_rfl) (by kernel_rfl) rfl (by kernel_rfl) (by kernel_rfl) (fun _ _ _ h => h) (Y.bin rfl rfl rfl (br_addN (n := 2) (by omega))) ?_
                refine TA.take 21 rfl rfl rfl rfl (by kernel_rfl) (by kernel_rfl) (by kernel_rfl) rfl (by kernel_rfl) (by kernel_rfl) (fun _ _ _ h => h) (Y.bin rfl rfl rfl (br_remN (n := 4) (by omega))) ?_
                refine TA.take 22 rfl rfl rfl rfl (by kernel_rfl) (by kernel_rfl) (by kernel_rfl) rfl (by kernel_rfl) (by kernel_rfl) (fun _ _ _ h => h) (Y.bin rfl rfl rfl (br_addN (by omega))) ?_
                refine TA.take 23 rfl rfl rfl rfl (by kernel_rfl) (by kernel_rfl) (by kernel_rfl) rfl (by kernel_rfl) (by kernel_rfl) (fun _ _ _ h => h) (Y.indexArr rfl ar22 rfl rfl (by omega) (by ((try simp only [Nat.zero_add, Nat.add_zero, Nat.mul_one, Nat.one_mul, Nat.mul_zero, Nat.zero_mul]) <;> rfl))) ?_
                refine TA.take 24 rfl rfl rfl rfl (by kernel_rfl) (by kernel_rfl) (by kernel_rfl) rfl (by kernel_rfl) (by kernel_rfl) (fun _ _ _ h => h) (Y.load rfl sc5 rfl (by first | exact Cel.blk (by with_reducible (repeat first | exact In.here | apply In.there)) (by first | exact getM (d := (0 : UInt8)) (by ((try simp only [List.length_set, List.length_map, List.length_append, List.length_replicate, List.size_toArray]); omega)) | rfl) | exact Cel.rblk (by with_reducible (repeat first | exact In.here | apply In.there)) (by first | exact getM (d := (0 : UInt8)) (by ((try simp only [List.length_set, List.length_map, List.length_append, List.length_replicate, List.size_toArray]); omega)) | rfl) | exact Cel.rds (by with_reducible (repeat first | exact In.here | apply In.there)) (getML (d := (0 : UInt8)) (by ((try simp only [List.length_set, List.length_map, List.length_append, List.length_replicate, List.size_toArray]); omega))) | exact Cel.owns (by with_reducible (repeat first | exact In.here | apply In.there)) (getML (d := (0 : UInt8)) (by ((try simp only [List.length_set, List.length_map, List.length_append, List.length_replicate, List.size_toArray]); omega))) | exact Cel.reads (by assumption) (by with_reducible (repeat first | exact In.here | apply In.there)) (getML (d := (0 : UInt8)) (by ((try simp only [List.length_set, List.length_map, List.length_append, List.length_replicate, List.size_toArray]); omega))))) ?_
                refine TA.take 26 rfl rfl rfl rfl (by kernel_rfl) (by kernel_rfl) (by kernel_rfl) rfl (by kernel_rfl) (by kernel_rfl) (fun _ _ _ h => h) (Y.move rfl rfl) ?_
                refine TA.take 27 rfl rfl rfl rfl (by kernel_rfl) (by kernel_rfl) (by kernel_rfl) rfl (by kernel_rfl) (by kernel_rfl) (fun _ _ _ h => h) (Y.bin rfl rfl rfl (br_mulN (m := 4) (by omega))) ?_
                refine TA.take 28 rfl rfl rfl rfl (by kernel_rfl) (by kernel_rfl) (by kernel_rfl) rfl (by kernel_rfl) (by kernel_rfl) (fun _ _ _ h => h) (Y.move rfl rfl) ?_
                refine TA.take 29 rfl rfl rfl rfl (by kernel_rfl) (by kernel_rfl) (by kernel_rfl) rfl (by kernel_rfl) (by kernel_rfl) (fun _ _ _ h => h) (Y.bin rfl rfl rfl (br_addN (n := 3) (by omega))) ?_
                refine TA.take 30 rfl rfl rfl rfl (by kernel_rfl) (by kernel_rfl) (by kernel_rfl) rfl (by kernel_rfl) (by kernel_rfl) (fun _ _ _ h => h) (Y.bin rfl rfl rfl (br_remN (n := 4) (by omega))) ?_
                refine TA.take 31 rfl rfl rfl rfl (by kernel_rfl) (by kernel_rfl) (by kernel_rfl) rfl (by kernel_rfl) (by kernel_rfl) (fun _ _ _ h => h) (Y.bin rfl rfl rfl (br_addN (by omega))) ?_
                refine TA.take 32 rfl rfl rfl rfl (by kernel_rfl) (by kernel_rfl) (by kernel_rfl) rfl (by kernel_rfl) (by kernel_rfl) (fun _ _ _ h => h) (Y.indexArr rfl ar22 rfl rfl (by omega) (by ((try simp only [Nat.zero_add, Nat.add_zero, Nat.mul_one, Nat.one_mul, Nat.mul_zero, Nat.zero_mul]) <;> rfl))) ?_
                refine TA.take 33 rfl rfl rfl rfl (by kernel_rfl) (by kernel_rfl) (by kernel_rfl) rfl (by kernel_rfl) (by kernel_rfl) (fun _ _ _ h => h) (Y.load rfl sc5 rfl (by first | exact Cel.blk (by with_reducible (repeat first | exact In.here | apply In.there)) (by first | exact getM (d := (0 : UInt8)) (by ((try simp only [List.length_set, List.length_map, List.length_append, List.length_replicate, List.size_toArray]); omega)) | rfl) | exact Cel.rblk (by with_reducible (repeat first | exact In.here | apply In.there)) (by first | exact getM (d := (0 : UInt8)) (by ((try simp only [List.length_set, List.length_map, List.length_append, List.length_replicate, List.size_toArray]); omega)) | rfl) | exact Cel.rds (by with_reducible (repeat first | exact In.here | apply In.there)) (getML (d := (0 : UInt8)) (by ((try simp only [List.length_set, List.length_map, List.length_append, List.length_replicate, List.size_toArray]); omega))) | exact Cel.owns (by with_reducible (repeat first | exact In.here | apply In.there)) (getML (d := (0 : UInt8)) (by ((try simp only [List.length_set, List.length_map, List.length_append, List.length_replicate, List.size_toArray]); omega))) | exact Cel.reads (by assumption) (by with_reducible (repeat first | exact In.here | apply In.there)) (getML (d := (0 : UInt8)) (by ((try simp only [List.length_set, List.length_map, List.length_append, List.length_replicate, List.size_toArray]); omega))))) ?_
                refine TA.one 6 (by kernel_rfl) rfl rfl rfl rfl (X.call rfl Try.func20 (by kernel_rfl) rfl rfl (times_fn 2 _ _)) ?_
                rintro _ _ ⟨rfl, rfl⟩
                refine ⟨(Or.inr (fun w h A hA => h A (by with_reducible (first | assumption | (repeat first | exact In.there hA | apply In.there))))), ?_⟩
                refine TA.one 15 (by kernel_rfl) rfl rfl rfl rfl (X.call rfl Try.func20 (by kernel_rfl) rfl rfl (times_fn 3 _ _)) ?_
                rintro _ _ ⟨rfl, rfl⟩
                refine ⟨(Or.inr (fun w h A hA => h A (by with_reducible (first | assumption | (repeat first | exact In.there hA | apply In.there))))), ?_⟩
                refine TA.take 16 rfl rfl rfl rfl (by kernel_rfl) (by kernel_rfl) (by kernel_rfl) rfl (by kernel_rfl) (by kernel_rfl) (fun _ _ _ h => h) (Y.bin rfl rfl rfl (br_xor8)) ?_
                refine TA.take 25 rfl rfl rfl rfl (by kernel_rfl) (by kernel_rfl) (by kernel_rfl) rfl (by kernel_rfl) (by kernel_rfl) (fun _ _ _ h => h) (Y.bin rfl rfl rfl (br_xor8)) ?_
                refine TA.take 34 rfl rfl rfl rfl (by kernel_rfl) (by kernel_rfl) (by kernel_rfl) rfl (by kernel_rfl) (by kernel_rfl) (fun _ _ _ h => h) (Y.bin rfl rfl rfl (br_xor8)) ?_
                refine TA.take 35 rfl rfl rfl rfl (by kernel_rfl) (by kernel_rfl) (by kernel_rfl) rfl (by kernel_rfl) (by kernel_rfl) (fun _ _ _ h => h) (Y.assign rfl rfl) ?_
                refine TA.done (by kernel_rfl) ?_
                rw [ref_mix U c i (by omega) (by omega)]
                refine TQ.meetF (()) (trivial) (by first | exact ⟨by rw [← hV, if_pos (by assumption)]; rfl, trivial⟩ | exact ⟨by rw [← hV, if_neg (by omega)]; rfl, trivial⟩) (by (repeat first | exact Grow.refl | apply Grow.step | apply Grow.app)) ?_ ?_
                · kernel_rfl
                · simp only [List.cons_append, List.nil_append]
                  exact (by (repeat first | (with_reducible exact Ent.refl) | (with_reducible exact Ent.nil) | refine Ent.cons (by first | (with_reducible (repeat first | exact Pull.here | apply Pull.there); done) | (repeat first | exact Pull.here | apply Pull.there)) ?_ | refine Ent.skip ?_))
              · try simp only [decide_eq_true_eq, decide_eq_false_iff_not, Bool.not_eq_true', Bool.not_eq_false', Bool.and_eq_true, Bool.or_eq_true, Nat.not_lt, Nat.not_le, beq_iff_eq, bne_iff_ne] at c6
                refine TC.skip ?_
                refine TQ.meetF (()) (trivial) (by first | exact ⟨by rw [← hV, if_pos (by assumption)]; rfl, trivial⟩ | exact ⟨by rw [← hV, if_neg (by omega)]; rfl, trivial⟩) (by (repeat first | exact Grow.refl | apply Grow.step | apply Grow.app)) ?_ ?_
                · kernel_rfl
                · simp only [List.cons_append, List.nil_append]
                  exact (by (repeat first | (with_reducible exact Ent.refl) | (with_reducible exact Ent.nil) | refine Ent.cons (by first | (with_reducible (repeat first | exact Pull.here | apply Pull.there); done) | (repeat first | exact Pull.here | apply Pull.there)) ?_ | refine Ent.skip ?_))
            · rintro ⟨⟩ - F' L' rfl hL'
              simp only [List.cons_append, List.nil_append] at hL'
              subst hL'
              refine TC.region ?_
              refine TL.val rfl rfl rfl (Y.move rfl rfl) ?_
              refine TL.val rfl rfl rfl (Y.bin rfl rfl rfl (br_mulN (m := 4) (by omega))) ?_
              refine TL.val rfl rfl rfl (Y.move rfl rfl) ?_
              refine TL.val rfl rfl rfl (Y.bin rfl rfl rfl (br_addN (by omega))) ?_
              refine TL.val rfl rfl rfl (Y.move rfl rfl) ?_
              refine TL.val rfl rfl rfl (Y.move rfl rfl) ?_
              refine TL.val rfl rfl rfl (Y.move rfl rfl) ?_
              refine TL.val rfl rfl rfl (Y.bin rfl rfl rfl (br_mulN (m := 4) (by omega))) ?_
              refine TL.val rfl rfl rfl (Y.move rfl rfl) ?_
              refine TL.val rfl rfl rfl (Y.bin rfl rfl rfl (br_addN (by omega))) ?_
              refine TL.val rfl rfl rfl (Y.move rfl rfl) ?_
              refine TL.val rfl rfl rfl (Y.nilCheck rfl rfl) ?_
              refine TL.val rfl rfl rfl (Y.indexArr rfl ar37 rfl rfl (by omega) (by ((try simp only [Nat.zero_add, Nat.add_zero, Nat.mul_one, Nat.one_mul, Nat.mul_zero, Nat.zero_mul]) <;> rfl))) ?_
              refine TL.val rfl rfl rfl (Y.indexArr rfl ar36 rfl rfl (by omega) (by ((try simp only [Nat.zero_add, Nat.add_zero, Nat.mul_one, Nat.one_mul, Nat.mul_zero, Nat.zero_mul]) <;> rfl))) ?_
              refine TL.val rfl rfl rfl (Y.load rfl sc5 rfl (by first | exact Cel.blk (by with_reducible (repeat first | exact In.here | apply In.there)) (by first | exact getM (d := (0 : UInt8)) (by ((try simp only [List.length_set, List.length_map, List.length_append, List.length_replicate, List.size_toArray]); omega)) | rfl) | exact Cel.rblk (by with_reducible (repeat first | exact In.here | apply In.there)) (by first | exact getM (d := (0 : UInt8)) (by ((try simp only [List.length_set, List.length_map, List.length_append, List.length_replicate, List.size_toArray]); omega)) | rfl) | exact Cel.rds (by with_reducible (repeat first | exact In.here | apply In.there)) (getML (d := (0 : UInt8)) (by ((try simp only [List.length_set, List.length_map, List.length_append, List.length_replicate, List.size_toArray]); omega))) | exact Cel.owns (by with_reducible (repeat first | exact In.here | apply In.there)) (getML (d := (0 : UInt8)) (by ((try simp only [List.length_set, List.length_map, List.length_append, List.length_replicate, List.size_toArray]); omega))) | exact Cel.reads (by assumption) (by with_reducible (repeat first | exact In.here | apply In.there)) (getML (d := (0 : UInt8)) (by ((try simp only [List.length_set, List.length_map, List.length_append, List.length_replicate, List.size_toArray]); omega))))) ?_
              refine TL.val rfl rfl rfl (Y.bin rfl rfl rfl (br_xor8)) ?_
              refine TL.val rfl rfl rfl (Y.indexArr rfl ar22 rfl rfl (by omega) (by ((try simp only [Nat.zero_add, Nat.add_zero, Nat.mul_one, Nat.one_mul, Nat.mul_zero, Nat.zero_mul]) <;> rfl))) ?_
              refine TL.eff0 rfl rfl (by first | exact X.store rfl sz5 rfl rfl rfl (by first | (with_reducible (repeat first | exact Pull.here | apply Pull.there); done) | (repeat first | exact Pull.here | apply Pull.there)) (by ((try simp only [List.length_set, List.length_map, List.length_append, List.length_replicate, List.size_toArray]); omega)) (by first | exact setM | rfl) | exact X.storeOwn rfl sz5 rfl (Nat.zero_add _).symm rfl rfl (by first | (with_reducible (repeat first | exact Pull.here | apply Pull.there); done) | (repeat first | exact Pull.here | apply Pull.there)) (by ((try simp only [List.length_set, List.length_map, List.length_append, List.length_replicate, List.size_toArray]); omega)) (by first | exact setML | rfl)) ?_
              rintro _ _ rfl
              refine TL.nil ?_
              refine TQ.block_normal ?_
              refine TQ.next ?_
              refine TC.region ?_
              refine TL.val rfl rfl rfl (Y.bin rfl rfl rfl (br_addN (n := 1) (by omega))) ?_
              refine TL.val rfl rfl rfl (Y.move rfl rfl) ?_
              refine TL.nil ?_
              rw [show (4 * (j + 1) + c) * 4 + i = 16 * (j + 1) + (4 * c + i) by omega, stK_s key S V (j + 1) (4 * c + i) (by omega) (by omega)]
              refine TQ.loopF (i + 1) (by omega) (by omega) ⟨rfl, trivial⟩ (by (repeat first | exact Grow.refl | apply Grow.step | apply Grow.app)) ?_ ?_ ?_
              · kernel_rfl
              · rfl
              · simp only [List.cons_append, List.nil_append]
                exact (by (repeat first | (with_reducible exact Ent.refl) | (with_reducible exact Ent.nil) | refine Ent.cons (by first | (with_reducible (repeat first | exact Pull.here | apply Pull.there); done) | (repeat first | exact Pull.here | apply Pull.there)) ?_ | refine Ent.skip ?_))
          · try simp only [decide_eq_true_eq, decide_eq_false_iff_not, Bool.not_eq_true', Bool.not_eq_false', Bool.and_eq_true, Bool.or_eq_true, Nat.not_lt, Nat.not_le, beq_iff_eq, bne_iff_ne] at c5
            refine TC.exit ?_
            refine TQ.then_exit ?_
            refine TQ.then_exit ?_
            refine TQ.block_exit ?_
            refine TQ.block_normal ?_
            refine TQ.next ?_
            refine TC.region ?_
            refine TL.val rfl rfl rfl (Y.bin rfl rfl rfl (br_addN (n := 1) (by omega))) ?_
            refine TL.val rfl rfl rfl (Y.move rfl rfl) ?_
            refine TL.nil ?_
            obtain rfl : i = 4 := by omega
            rw [show 4 * c + 4 = 4 * (c + 1) by omega]
            refine TQ.loopF (c + 1) (by omega) (by omega) ⟨rfl, trivial⟩ (by (repeat first | exact Grow.refl | apply Grow.step | apply Grow.app)) ?_ ?_ ?_
            · kernel_rfl
            · rfl
            · simp only [List.cons_append, List.nil_append]
              exact (by (repeat first | (with_reducible exact Ent.refl) | (with_reducible exact Ent.nil) | refine Ent.cons (by first | (with_reducible (repeat first | exact Pull.here | apply Pull.there); done) | (repeat first | exact Pull.here | apply Pull.there)) ?_ | refine Ent.skip ?_))
        · try simp only [decide_eq_true_eq, decide_eq_false_iff_not, Bool.not_eq_true', Bool.not_eq_false', Bool.and_eq_true, Bool.or_eq_true, Nat.not_lt, Nat.not_le, beq_iff_eq, bne_iff_ne] at c4
          refine TC.exit ?_
          refine TQ.then_exit ?_
          refine TQ.then_exit ?_
          refine TQ.block_exit ?_
          refine TQ.block_normal ?_
          refine TQ.next ?_
          refine TC.region ?_
          refine TL.val rfl rfl rfl (Y.move rfl rfl) ?_
          refine TL.val rfl rfl rfl (Y.bin rfl rfl rfl (br_addN (n := 1) (by omega))) ?_
          refine TL.val rfl rfl rfl (Y.assign rfl rfl) ?_
          refine TL.nil ?_
          obtain rfl : c = 4 := by omega
          rw [show stK key S V (j + 1) (4 * 4) = tab 16 (addK key (j + 1) V) from stK_16 key S V (j + 1)]
          refine TQ.loopF (j + 1) (by omega) (by omega) ⟨rfl, trivial⟩ (by (repeat first | exact Grow.refl | apply Grow.step | apply Grow.app)) ?_ ?_ ?_
          · kernel_rfl
          · rfl
          · simp only [List.cons_append, List.nil_append]
            exact (by rw [show rnds key s (j + 1) = addK key (j + 1) V by rw [rnds, rnd, hS, hU, hV]]; exact (by (repeat first | (with_reducible exact Ent.refl) | (with_reducible exact Ent.nil) | refine Ent.cons (by first | (with_reducible (repeat first | exact Pull.here | apply Pull.there); done) | (repeat first | exact Pull.here | apply Pull.there)) ?_ | refine Ent.skip ?_)))
    · try simp only [decide_eq_true_eq, decide_eq_false_iff_not, Bool.not_eq_true', Bool.not_eq_false', Bool.and_eq_true, Bool.or_eq_true, Nat.not_lt, Nat.not_le, beq_iff_eq, bne_iff_ne] at c1
      refine TC.exit ?_
      refine TQ.then_exit ?_
      refine TQ.then_exit ?_
      refine TQ.block_exit ?_
      refine TQ.next ?_
      refine TC.seq ?_
      obtain rfl : j = 10 := by omega
      rw [← hS]
      have hfl : (tab 16 (rnds key s 10)).length = 16 := tab_len
      refine TC.region ?_
      refine TL.val rfl rfl rfl (Y.loadAgg rfl ag22 rfl (Cels.full (by with_reducible (repeat first | exact In.here | apply In.there))) (by ((try simp only [List.length_map, List.length_set, List.length_replicate]); omega))) ?_
      refine TL.eff0 rfl rfl (by first | exact X.storeAll rfl sz22 (by ((try simp only [List.size_toArray, List.length_set, List.length_map, List.length_append, List.length_replicate, List.length_cons, List.length_nil]); (first | done | omega | (simp [*]; done)))) rfl rfl (by simp [Value.oneCell']) (by first | (with_reducible (repeat first | exact Pull.here | apply Pull.there); done) | (repeat first | exact Pull.here | apply Pull.there)) (by ((try simp only [List.size_toArray, List.length_set, List.length_map, List.length_append, List.length_replicate, List.length_cons, List.length_nil]); (first | done | omega | (simp [*]; done)))) | exact X.storeAgg rfl sz22 (by ((try simp only [List.size_toArray, List.length_set, List.length_map, List.length_append, List.length_replicate, List.length_cons, List.length_nil]); (first | done | omega | (simp [*]; done)))) rfl rfl (by simp [Value.oneCell']) (by first | (with_reducible (repeat first | exact Pull.here | apply Pull.there); done) | (repeat first | exact Pull.here | apply Pull.there)) (by ((try simp only [List.size_toArray, List.length_set, List.length_map, List.length_append, List.length_replicate, List.length_cons, List.length_nil]); (first | done | omega | (simp [*]; done)))) (writeM (by ((try simp only [List.length_set, List.length_map, List.length_append, List.length_replicate]); omega)))) ?_
      rintro _ _ rfl
      refine TL.nil ?_
      refine TQ.next ?_
      refine TC.ret ?_
      refine TQ.retE (resC rfl ag22 rfl (Cels.full (by with_reducible (repeat first | exact In.here | apply In.there))) (by ((try simp only [List.size_toArray, List.length_set, List.length_map, List.length_append, List.length_replicate, List.length_cons, List.length_nil]); (first | done | omega | (simp [*]; done))))) (⟨rfl, rfl⟩) ?_
      exact (by (repeat first | (with_reducible exact Ent.refl) | (with_reducible exact Ent.nil) | refine Ent.cons (by first | (with_reducible (repeat first | exact Pull.here | apply Pull.there); done) | (repeat first | exact Pull.here | apply Pull.there)) ?_ | refine Ent.skip ?_))
end aes
end Go.Proofs.Ytpddnhjpjmbgfaa
