/- AES: a block encrypted, as the program does it. -/
import Derived.Test.YtpddnhjpjmbgfaaAesExpand
namespace Go.Proofs.Ytpddnhjpjmbgfaa
set_option linter.unusedVariables false
set_option linter.unusedSimpArgs false
open Go.RowKit
namespace aes
namespace FxAesEnc
set_option maxRecDepth 100000
theorem ag22 : Program.aggN Try.prog 22 = some 16 := by kernel_rfl
theorem ar22 : Program.arrI Try.prog 22 = some (16, 1) := by kernel_rfl
theorem ar34 : Program.arrI Try.prog 34 = some (256, 1) := by kernel_rfl
theorem ar42 : Program.arrI Try.prog 42 = some (11, 16) := by kernel_rfl
theorem fo44_0 : Program.fieldOff Try.prog 44 0 = some 0 := by kernel_rfl
theorem fo44_1 : Program.fieldOff Try.prog 44 1 = some 256 := by kernel_rfl
theorem sc5 : Program.isSc Try.prog 5 = true := by kernel_rfl
theorem sz22 : (Try.prog.info? 22).map (·.size) = some 16 := by kernel_rfl
theorem sz5 : (Try.prog.info? 5).map (·.size) = some 1 := by kernel_rfl
theorem zc22 : Program.zeroC Try.prog 22 = some ((List.replicate 16 (0 : UInt8)).map v8).toArray := by kernel_rfl
end FxAesEnc
open FxAesEnc
/-- a state: sixteen bytes -/
abbrev St16 := Nat → UInt8
def addK (key : List UInt8) (r : Nat) (s : St16) : St16 := fun i => s i ^^^ kK key (16 * r + i)
def subS (s : St16) : St16 := fun i => sB (s ((i + 4 * (i % 4)) % 16)).toNat
/-- the four of i's column, from i on -/
def cl (s : St16) (i d : Nat) : UInt8 := s (i / 4 * 4 + (i + d) % 4)
def mixS (s : St16) : St16 := fun i => s i ^^^ (cl s i 0 ^^^ cl s i 1 ^^^ cl s i 2 ^^^ cl s i 3 ^^^ dbl (s i ^^^ cl s i 1))
def rnd (key : List UInt8) (r : Nat) (s : St16) : St16 := addK key r (if r < 10 then mixS (subS s) else subS s)
def rnds (key : List UInt8) (s : St16) : Nat → St16
  | 0 => addK key 0 s
  | r + 1 => rnd key (r + 1) (rnds key s r)
def enc (key : List UInt8) (b : List UInt8) : List UInt8 := tab 16 (rnds key (fun i => b.getD i 0) 10)
theorem enc_len (key b : List UInt8) : (enc key b).length = 16 := tab_len
theorem tab_of {b : List UInt8} (h : b.length = 16) : tab 16 (fun i => b.getD i 0) = b := by
  have := tab_self (l := b) (d := 0); rwa [h] at this
theorem mem_len (key : List UInt8) : (mem key).length = 432 := fm_len _
theorem mem_key (key : List UInt8) {n : Nat} (h : n < 176) : (mem key).getD (256 + n) 0 = kK key n := fm_key _ h
theorem addK_eq (key : List UInt8) (r : Nat) (hr : r ≤ 10) (s : St16) : (tab 16 fun i => s i ^^^ (mem key).getD (256 + 16 * r + i) 0) = tab 16 (addK key r s) :=
  tab_congr fun i hi => by rw [addK, Nat.add_assoc, mem_key key (by omega)]
def subK (s : St16) (k : Nat) : List UInt8 := tab 16 fun i => if i < k then subS s i else 0
theorem subK_0 (s : St16) : List.replicate 16 0 = subK s 0 := by rw [tab_rep]; exact tab_congr fun i _ => by simp
theorem subK_len (s : St16) (k : Nat) : (subK s k).length = 16 := tab_len
theorem subK_s (key : List UInt8) (s : St16) (k : Nat) : (subK s k).set k ((mem key).getD ((tab 16 s).getD ((k + 4 * (k % 4)) % 16) 0).toNat 0) = subK s (k + 1) := by
  have hb := (s ((k + 4 * (k % 4)) % 16)).toNat_lt
  rw [subK, tab_set, subK, tab_getD (by omega), mem, fm_s _ (by omega)]
  refine tab_congr fun i _ => ?_
  by_cases h : i = k
  · rw [if_pos h, if_pos (by omega), h]; rfl
  · rw [if_neg h]
    by_cases h2 : i < k
    · rw [if_pos h2, if_pos (by omega)]
    · rw [if_neg h2, if_neg (by omega)]
theorem subK_16 (s : St16) : subK s 16 = tab 16 (subS s) := tab_congr fun i hi => by rw [if_pos hi]
/-- columns mixed: all places before k -/
def mixK (s : St16) (k : Nat) : List UInt8 := tab 16 fun i => if i < k then mixS s i else s i
theorem mixK_len (s : St16) (k : Nat) : (mixK s k).length = 16 := tab_len
theorem mixK_0 (s : St16) : tab 16 s = mixK s 0 := tab_congr fun i _ => by simp
theorem mixK_16 (s : St16) : mixK s 16 = tab 16 (mixS s) := tab_congr fun i hi => by rw [if_pos hi]
theorem mixK_get (s : St16) {k i : Nat} (h : i < 16) (hk : k ≤ i) : (mixK s k).getD i 0 = s i := by
  rw [mixK, tab_getD h, if_neg (by omega)]
theorem mixK_set (s : St16) {k : Nat} {v : UInt8} (hv : v = mixS s k) : (mixK s k).set k v = mixK s (k + 1) := by
  rw [mixK, tab_set, mixK]; refine tab_congr fun i _ => ?_
  by_cases h : i = k
  · rw [if_pos h, if_pos (by omega), hv, h]
  · rw [if_neg h]
    by_cases h2 : i < k
    · rw [if_pos h2, if_pos (by omega)]
    · rw [if_neg h2, if_neg (by omega)]
def allS (s : St16) (c : Nat) : UInt8 := s (4 * c) ^^^ s (4 * c + 1) ^^^ s (4 * c + 2) ^^^ s (4 * c + 3)
theorem x4r (a b c d : UInt8) : b ^^^ c ^^^ d ^^^ a = a ^^^ b ^^^ c ^^^ d := by
  rw [UInt8.xor_comm _ a, UInt8.xor_assoc, UInt8.xor_assoc, UInt8.xor_assoc]
theorem all_eq (s : St16) (c j : Nat) (hj : j < 4) : cl s (4 * c + j) 0 ^^^ cl s (4 * c + j) 1 ^^^ cl s (4 * c + j) 2 ^^^ cl s (4 * c + j) 3 = allS s c := by
  have e : ∀ d, cl s (4 * c + j) d = s (4 * c + (j + d) % 4) := fun d => by
    simp only [cl]; congr 1; omega
  rw [e, e, e, e, allS]
  match j, hj with
  | 0, _ => rfl
  | 1, _ => exact x4r _ _ _ _
  | 2, _ =>
    show s (4 * c + 2) ^^^ s (4 * c + 3) ^^^ s (4 * c + 0) ^^^ s (4 * c + 1) = _
    rw [x4r, x4r]; rfl
  | 3, _ =>
    show s (4 * c + 3) ^^^ s (4 * c + 0) ^^^ s (4 * c + 1) ^^^ s (4 * c + 2) = _
    rw [x4r, x4r, x4r]; rfl
theorem mix_at (s : St16) (c j : Nat) (hj : j < 4) : mixS s (4 * c + j) = s (4 * c + j) ^^^ (allS s c ^^^ dbl (s (4 * c + j) ^^^ s (4 * c + (j + 1) % 4))) := by
  rw [mixS, all_eq s c j hj]
  have : cl s (4 * c + j) 1 = s (4 * c + (j + 1) % 4) := by simp only [cl]; congr 1; omega
  rw [this]
theorem addK_eq0 (key : List UInt8) (s : St16) : (tab 16 fun i => s i ^^^ (mem key).getD (256 + i) 0) = tab 16 (addK key 0 s) := addK_eq key 0 (by omega) s
theorem addK_eqr (key : List UInt8) (r : Nat) (hr : r ≤ 10) (s : St16) : (tab 16 fun i => s i ^^^ (mem key).getD (256 + r * 16 + i) 0) = tab 16 (addK key r s) := by rw [Nat.mul_comm]; exact addK_eq key r hr s
set_option maxHeartbeats 4000000 in
theorem encrypt_fn (key : List UInt8) (bc T : Nat) (s : St16) (L : List SA) :
    Fn Try.prog 13 [pt bc 0, .agg ((tab 16 s).map v8).toArray] (SA.blk bc ((mem key).map v8).toArray T :: L) (fun v L' => v = .agg ((tab 16 (rnds key s 10)).map v8).toArray ∧ L' = SA.blk bc ((mem key).map v8).toArray T :: L) := by
  have hml := mem_len key
  refine Fn.of (N := 116) Try.func13 rfl rfl ?_
  refine TC.seq ?_
  refine TC.region ?_
  refine TL.eff rfl rfl rfl (X.boxA rfl rfl) ?_
  rintro _ _ ⟨b3, rfl, rfl⟩
  refine TL.eff rfl rfl rfl (X.alloc rfl zc22) ?_
  rintro _ _ ⟨b4, rfl, rfl⟩
  refine TL.nil ?_
  refine TQ.next ?_
  refine TC.seq ?_
  refine TC.region ?_
  refine TL.val rfl rfl rfl (Y.move rfl rfl) ?_
  refine TL.val rfl rfl rfl (Y.nilCheck rfl rfl) ?_
  refine TL.val rfl rfl rfl (Y.fieldAddr rfl fo44_1 rfl (by ((try simp only [Nat.zero_add, Nat.add_zero, Nat.mul_one, Nat.one_mul, Nat.mul_zero, Nat.zero_mul]) <;> rfl))) ?_
  refine TL.val rfl rfl rfl (Y.indexArr (j := 0) rfl ar42 rfl rfl (by omega) (by ((try simp only [Nat.zero_add, Nat.add_zero, Nat.mul_one, Nat.one_mul, Nat.mul_zero, Nat.zero_mul]) <;> rfl))) ?_
  refine TL.eff rfl rfl rfl (X.call rfl Try.func18 (by kernel_rfl) rfl rfl (Fn.pre (xor_fn b3 bc T s (mem key) 256 (by omega) _) (Ent.cons (by first | (with_reducible (repeat first | exact Pull.here | apply Pull.there); done) | (repeat first | exact Pull.here | apply Pull.there)) (Ent.cons (by first | (with_reducible (repeat first | exact Pull.here | apply Pull.there); done) | (repeat first | exact Pull.here | apply Pull.there)) Ent.refl)))) ?_
  rintro _ _ ⟨rfl, rfl⟩
  rw [addK_eq0]
  refine TL.nil ?_
  refine TQ.next ?_
  refine TC.seq ?_
  refine TC.seq ?_
  refine TC.region ?_
  refine TL.val rfl rfl rfl (Y.assign rfl rfl) ?_
  refine TL.nil ?_
  refine TQ.next ?_
  refine TC.block ?_
  refine TC.loopF (ι := Nat) [] (fun j => j ≤ 10) (fun j => [(5, some (vN (j + 1)))]) (fun j => [SA.blk b3 ((tab 16 (rnds key s j)).map v8).toArray 22]) (fun j => 10 - j) (0) (by omega) ⟨rfl, trivial⟩ (Pulls.cons (by first | (with_reducible (repeat first | exact Pull.here | apply Pull.there); done) | (repeat first | exact Pull.here | apply Pull.there)) Pulls.nil) ?_
  rintro j hj F' L' rfl hL'
  simp only [List.cons_append, List.nil_append] at hL'
  subst hL'
  generalize hS : rnds key s j = S
  have ht : (tab 16 S).length = 16 := tab_len
  refine TC.seq ?_
  refine TC.seq ?_
  refine TC.region ?_
  refine TL.val rfl rfl rfl (Y.move rfl rfl) ?_
  refine TL.val rfl rfl rfl (Y.bin rfl rfl rfl (br_leN (n := 10))) ?_
  refine TL.nil ?_
  refine TQ.next ?_
  refine TC.cond rfl (fun c0 => ?_) (fun c0 => ?_)
  · try simp only [decide_eq_true_eq, decide_eq_false_iff_not, Bool.not_eq_true', Bool.not_eq_false', Bool.and_eq_true, Bool.or_eq_true, Nat.not_lt, Nat.not_le, beq_iff_eq, bne_iff_ne] at c0
    refine TC.skip ?_
    refine TQ.next ?_
    refine TC.seq ?_
    refine TC.block ?_
    refine TC.seq ?_
    refine TC.region ?_
    refine TL.eff rfl rfl rfl (X.alloc rfl zc22) ?_
    rintro _ _ ⟨b6, rfl, rfl⟩
    refine TL.nil ?_
    refine TQ.next ?_
    refine TC.seq ?_
    refine TC.seq ?_
    refine TC.region ?_
    refine TL.val rfl rfl rfl (Y.move rfl rfl) ?_
    refine TL.nil ?_
    refine TQ.next ?_
    refine TC.block ?_
    refine TC.loopF (ι := Nat) [] (fun k => k ≤ 16) (fun k => [(21, some (vN k))]) (fun k => [SA.blk b6 ((subK S k).map v8).toArray 22]) (fun k => 16 - k) (0) (by omega) ⟨rfl, trivial⟩ (by rw [← subK_0]; exact Pulls.cons (by first | (with_reducible (repeat first | exact Pull.here | apply Pull.there); done) | (repeat first | exact Pull.here | apply Pull.there)) Pulls.nil) ?_
    rintro k hk F' L' rfl hL'
    simp only [List.cons_append, List.nil_append] at hL'
    subst hL'
    have hl := subK_len S k
    have hx := ((tab 16 S).getD ((k + 4 * (k % 4)) % 16) 0).toNat_lt
    refine TC.seq ?_
    refine TC.region ?_
    refine TL.val rfl rfl rfl (Y.bin rfl rfl rfl (br_ltN (n := 16))) ?_
    refine TL.nil ?_
    refine TQ.next ?_
    refine TC.seq ?_
    refine TC.cond rfl (fun c1 => ?_) (fun c1 => ?_)
    · try simp only [decide_eq_true_eq, decide_eq_false_iff_not, Bool.not_eq_true', Bool.not_eq_false', Bool.and_eq_true, Bool.or_eq_true, Nat.not_lt, Nat.not_le, beq_iff_eq, bne_iff_ne] at c1
      refine TC.skip ?_
      refine TQ.next ?_
      refine TC.seq ?_
      refine TC.block ?_
      refine TC.seq ?_
      refine TC.region ?_
      refine TL.val rfl rfl rfl (Y.move rfl rfl) ?_
      refine TL.val rfl rfl rfl (Y.assign rfl rfl) ?_
      refine TL.nil ?_
      refine TQ.next ?_
      refine TC.draws 15 _ (by kernel_rfl) (fun _ h => h) ?_
      refine TA.take 0 rfl rfl rfl rfl (by kernel_rfl) (by kernel_rfl) (by kernel_rfl) rfl (by kernel_rfl) (by kernel_rfl) (fun _ _ _ h => h) (Y.move rfl rfl) ?_
      refine TA.take 1 rfl rfl rfl rfl (by kernel_rfl) (by kernel_rfl) (by kernel_rfl) rfl (by kernel_rfl) (by kernel_rfl) (fun _ _ _ h => h) (Y.move rfl rfl) ?_
      refine TA.take 2 rfl rfl rfl rfl (by kernel_rfl) (by kernel_rfl) (by kernel_rfl) rfl (by kernel_rfl) (by kernel_rfl) (fun _ _ _ h => h) (Y.move rfl rfl) ?_
      refine TA.take 3 rfl rfl rfl rfl (by kernel_rfl) (by kernel_rfl) (by kernel_rfl) rfl (by kernel_rfl) (by kernel_rfl) (fun _ _ _ h => h) (Y.move rfl rfl) ?_
      refine TA.take 4 rfl rfl rfl rfl (by kernel_rfl) (by kernel_rfl) (by kernel_rfl) rfl (by kernel_rfl) (by kernel_rfl) (fun _ _ _ h => h) (Y.bin rfl rfl rfl (br_remN (n := 4) (by omega))) ?_
      refine TA.take 5 rfl rfl rfl rfl (by kernel_rfl) (by kernel_rfl) (by kernel_rfl) rfl (by kernel_rfl) (by kernel_rfl) (fun _ _ _ h => h) (Y.bin rfl rfl rfl (br_mulN (m := 4) (by omega))) ?_
      refine TA.take 6 rfl rfl rfl rfl (by kernel_rfl) (by kernel_rfl) (by kernel_rfl) rfl (by kernel_rfl) (by kernel_rfl) (fun _ _ _ h => h) (Y.bin rfl rfl rfl (br_addN (by omega))) ?_
      refine TA.take 7 rfl rfl rfl rfl (by kernel_rfl) (by kernel_rfl) (by kernel_rfl) rfl (by kernel_rfl) (by kernel_rfl) (fun _ _ _ h => h) (Y.bin rfl rfl rfl (br_remN (n := 16) (by omega))) ?_
      refine TA.take 8 rfl rfl rfl rfl (by kernel_rfl) (by kernel_rfl) (by kernel_rfl) rfl (by kernel_rfl) (by kernel_rfl) (fun _ _ _ h => h) (Y.indexArr rfl ar22 rfl rfl (by omega) (by ((try simp only [Nat.zero_add, Nat.add_zero, Nat.mul_one, Nat.one_mul, Nat.mul_zero, Nat.zero_mul]) <;> rfl))) ?_
      refine TA.take 9 rfl rfl rfl rfl (by kernel_rfl) (by kernel_rfl) (by kernel_rfl) rfl (by kernel_rfl) (by kernel_rfl) (fun _ _ _ h => h) (Y.load rfl sc5 rfl (by first | exact Cel.blk (by with_reducible (repeat first | exact In.here | apply In.there)) (by first | exact getM (d := (0 : UInt8)) (by ((try simp only [List.length_set, List.length_map, List.length_append, List.length_replicate, List.size_toArray]); omega)) | rfl) | exact Cel.rblk (by with_reducible (repeat first | exact In.here | apply In.there)) (by first | exact getM (d := (0 : UInt8)) (by ((try simp only [List.length_set, List.length_map, List.length_append, List.length_replicate, List.size_toArray]); omega)) | rfl) | exact Cel.rds (by with_reducible (repeat first | exact In.here | apply In.there)) (getML (d := (0 : UInt8)) (by ((try simp only [List.length_set, List.length_map, List.length_append, List.length_replicate, List.size_toArray]); omega))) | exact Cel.owns (by with_reducible (repeat first | exact In.here | apply In.there)) (getML (d := (0 : UInt8)) (by ((try simp only [List.length_set, List.length_map, List.length_append, List.length_replicate, List.size_toArray]); omega))) | exact Cel.reads (by assumption) (by with_reducible (repeat first | exact In.here | apply In.there)) (getML (d := (0 : UInt8)) (by ((try simp only [List.length_set, List.length_map, List.length_append, List.length_replicate, List.size_toArray]); omega))))) ?_
      refine TA.take 10 rfl rfl rfl rfl (by kernel_rfl) (by kernel_rfl) (by kernel_rfl) rfl (by kernel_rfl) (by kernel_rfl) (fun _ _ _ h => h) (Y.nilCheck rfl rfl) ?_
      refine TA.take 11 rfl rfl rfl rfl (by kernel_rfl) (by kernel_rfl) (by kernel_rfl) rfl (by kernel_rfl) (by kernel_rfl) (fun _ _ _ h => h) (Y.fieldAddr rfl fo44_0 rfl (by ((try simp only [Nat.zero_add, Nat.add_zero, Nat.mul_one, Nat.one_mul, Nat.mul_zero, Nat.zero_mul]) <;> rfl))) ?_
      refine TA.take 12 rfl rfl rfl rfl (by kernel_rfl) (by kernel_rfl) (by kernel_rfl) rfl (by kernel_rfl) (by kernel_rfl) (fun _ _ _ h => h) (Y.indexArr rfl ar34 rfl rfl (by omega) (by ((try simp only [Nat.zero_add, Nat.add_zero, Nat.mul_one, Nat.one_mul, Nat.mul_zero, Nat.zero_mul]) <;> rfl))) ?_
      refine TA.take 13 rfl rfl rfl rfl (by kernel_rfl) (by kernel_rfl) (by kernel_rfl) rfl (by kernel_rfl) (by kernel_rfl) (fun _ _ _ h => h) (Y.load rfl sc5 rfl (by first | exact Cel.blk (by with_reducible (repeat first | exact In.here | apply In.there)) (by first | exact getM (d := (0 : UInt8)) (by ((try simp only [List.length_set, List.length_map, List.length_append, List.length_replicate, List.size_toArray]); omega)) | rfl) | exact Cel.rblk (by with_reducible (repeat first | exact In.here | apply In.there)) (by first | exact getM (d := (0 : UInt8)) (by ((try simp only [List.length_set, List.length_map, List.length_append, List.length_replicate, List.size_toArray]); omega)) | rfl) | exact Cel.rds (by with_reducible (repeat first | exact In.here | apply In.there)) (getML (d := (0 : UInt8)) (by ((try simp only [List.length_set, List.length_map, List.length_append, List.length_replicate, List.size_toArray]); omega))) | exact Cel.owns (by with_reducible (repeat first | exact In.here | apply In.there)) (getML (d := (0 : UInt8)) (by ((try simp only [List.length_set, List.length_map, List.length_append, List.length_replicate, List.size_toArray]); omega))) | exact Cel.reads (by assumption) (by with_reducible (repeat first | exact In.here | apply In.there)) (getML (d := (0 : UInt8)) (by ((try simp only [List.length_set, List.length_map, List.length_append, List.length_replicate, List.size_toArray]); omega))))) ?_
      refine TA.take 14 rfl rfl rfl rfl (by kernel_rfl) (by kernel_rfl) (by kernel_rfl) rfl (by kernel_rfl) (by kernel_rfl) (fun _ _ _ h => h) (Y.indexArr rfl ar22 rfl rfl (by omega) (by ((try simp only [Nat.zero_add, Nat.add_zero, Nat.mul_one, Nat.one_mul, Nat.mul_zero, Nat.zero_mul]) <;> rfl))) ?_
      refine TA.one0 15 (by kernel_rfl) rfl rfl rfl (by first | exact X.store rfl sz5 rfl rfl rfl (by first | (with_reducible (repeat first | exact Pull.here | apply Pull.there); done) | (repeat first | exact Pull.here | apply Pull.there)) (by ((try simp only [List.length_set, List.length_map, List.length_append, List.length_replicate, List.size_toArray]); omega)) (by first | exact setM | rfl) | exact X.storeOwn rfl sz5 rfl (Nat.zero_add _).symm rfl rfl (by first | (with_reducible (repeat first | exact Pull.here | apply Pull.there); done) | (repeat first | exact Pull.here | apply Pull.there)) (by ((try simp only [List.length_set, List.length_map, List.length_append, List.length_replicate, List.size_toArray]); omega)) (by first | exact setML | rfl)) ?_
      rintro _ _ rfl
      refine ⟨(Or.inl (by kernel_rfl)), ?_⟩
      refine TA.done (by kernel_rfl) ?_
      refine TQ.block_normal ?_
      refine TQ.next ?_
      refine TC.region ?_
      refine TL.val rfl rfl rfl (Y.bin rfl rfl rfl (br_addN (n := 1) (by omega))) ?_
      refine TL.val rfl rfl rfl (Y.move rfl rfl) ?_
      refine TL.nil ?_
      rw [subK_s key]
      refine TQ.loopF (k + 1) (by omega) (by omega) ⟨rfl, trivial⟩ (by (repeat first | exact Grow.refl | apply Grow.step | apply Grow.app)) ?_ ?_ ?_
      · kernel_rfl
      · rfl
      · simp only [List.cons_append, List.nil_append]
        exact (by (repeat first | (with_reducible exact Ent.refl) | (with_reducible exact Ent.nil) | refine Ent.cons (by first | (with_reducible (repeat first | exact Pull.here | apply Pull.there); done) | (repeat first | exact Pull.here | apply Pull.there)) ?_ | refine Ent.skip ?_))
    · try simp only [decide_eq_true_eq, decide_eq_false_iff_not, Bool.not_eq_true', Bool.not_eq_false', Bool.and_eq_true, Bool.or_eq_true, Nat.not_lt, Nat.not_le, beq_iff_eq, bne_iff_ne] at c1
      obtain rfl : k = 16 := by omega
      rw [subK_16]
      generalize hU : subS S = U
      have hu : (tab 16 U).length = 16 := tab_len
      refine TC.exit ?_
      refine TQ.then_exit ?_
      refine TQ.then_exit ?_
      refine TQ.block_exit ?_
      refine TQ.next ?_
      refine TC.cutF (ι := Unit) [] (fun _ => True) (fun _ => []) (fun _ => [SA.blk b6 ((tab 16 (if j + 1 < 10 then mixS U else U)).map v8).toArray 22]) (Ao := [SA.blk b6 ((tab 16 U).map v8).toArray 22]) (Pulls.cons (by first | (with_reducible (repeat first | exact Pull.here | apply Pull.there); done) | (repeat first | exact Pull.here | apply Pull.there)) Pulls.nil) ?_ ?_
      · rintro L' hL'
        simp only [List.cons_append, List.nil_append] at hL'
        subst hL'
        refine TC.seq ?_
        refine TC.region ?_
        refine TL.val rfl rfl rfl (Y.move rfl rfl) ?_
        refine TL.val rfl rfl rfl (Y.bin rfl rfl rfl (br_ltN (n := 10))) ?_
        refine TL.nil ?_
        refine TQ.next ?_
        refine TC.cond rfl (fun c2 => ?_) (fun c2 => ?_)
        · try simp only [decide_eq_true_eq, decide_eq_false_iff_not, Bool.not_eq_true', Bool.not_eq_false', Bool.and_eq_true, Bool.or_eq_true, Nat.not_lt, Nat.not_le, beq_iff_eq, bne_iff_ne] at c2
          refine TC.seq ?_
          refine TC.region ?_
          refine TL.val rfl rfl rfl (Y.assign rfl rfl) ?_
          refine TL.nil ?_
          refine TQ.next ?_
          refine TC.block ?_
          refine TC.loopF (ι := Nat) [] (fun c => c ≤ 4) (fun c => [(8, some (vN (4 * c)))]) (fun c => [SA.blk b6 ((mixK U (4 * c)).map v8).toArray 22]) (fun c => 4 - c) (0) (by omega) ⟨rfl, trivial⟩ (by rw [← mixK_0]; exact Pulls.cons (by first | (with_reducible (repeat first | exact Pull.here | apply Pull.there); done) | (repeat first | exact Pull.here | apply Pull.there)) Pulls.nil) ?_
          rintro c hc F' L' rfl hL'
          simp only [List.cons_append, List.nil_append] at hL'
          subst hL'
          have hm := mixK_len U (4 * c)
          refine TC.seq ?_
          refine TC.seq ?_
          refine TC.region ?_
          refine TL.val rfl rfl rfl (Y.move rfl rfl) ?_
          refine TL.val rfl rfl rfl (Y.bin rfl rfl rfl (br_ltN (n := 16))) ?_
          refine TL.nil ?_
          refine TQ.next ?_
          refine TC.cond rfl (fun c3 => ?_) (fun c3 => ?_)
          · try simp only [decide_eq_true_eq, decide_eq_false_iff_not, Bool.not_eq_true', Bool.not_eq_false', Bool.and_eq_true, Bool.or_eq_true, Nat.not_lt, Nat.not_le, beq_iff_eq, bne_iff_ne] at c3
            refine TC.skip ?_
            refine TQ.next ?_
            refine TC.seq ?_
            refine TC.block ?_
            refine TC.seq ?_
            refine TC.draws 19 _ (by kernel_rfl) (fun _ h => h) ?_
            refine TA.take 0 rfl rfl rfl rfl (by kernel_rfl) (by kernel_rfl) (by kernel_rfl) rfl (by kernel_rfl) (by kernel_rfl) (fun _ _ _ h => h) (Y.move rfl rfl) ?_
            refine TA.take 1 rfl rfl rfl rfl (by kernel_rfl) (by kernel_rfl) (by kernel_rfl) rfl (by kernel_rfl) (by kernel_rfl) (fun _ _ _ h => h) (Y.indexArr rfl ar22 rfl rfl (by omega) (by ((try simp only [Nat.zero_add, Nat.add_zero, Nat.mul_one, Nat.one_mul, Nat.mul_zero, Nat.zero_mul]) <;> rfl))) ?_
            refine TA.take 2 rfl rfl rfl rfl (by kernel_rfl) (by kernel_rfl) (by kernel_rfl) rfl (by kernel_rfl) (by kernel_rfl) (fun _ _ _ h => h) (Y.load rfl sc5 rfl (by first | exact Cel.blk (by with_reducible (repeat first | exact In.here | apply In.there)) (by first | exact getM (d := (0 : UInt8)) (by ((try simp only [List.length_set, List.length_map, List.length_append, List.length_replicate, List.size_toArray]); omega)) | rfl) | exact Cel.rblk (by with_reducible (repeat first | exact In.here | apply In.there)) (by first | exact getM (d := (0 : UInt8)) (by ((try simp only [List.length_set, List.length_map, List.length_append, List.length_replicate, List.size_toArray]); omega)) | rfl) | exact Cel.rds (by with_reducible (repeat first | exact In.here | apply In.there)) (getML (d := (0 : UInt8)) (by ((try simp only [List.length_set, List.length_map, List.length_append, List.length_replicate, List.size_toArray]); omega))) | exact Cel.owns (by with_reducible (repeat first | exact In.here | apply In.there)) (getML (d := (0 : UInt8)) (by ((try simp only [List.length_set, List.length_map, List.length_append, List.length_replicate, List.size_toArray]); omega))) | exact Cel.reads (by assumption) (by with_reducible (repeat first | exact In.here | apply In.there)) (getML (d := (0 : UInt8)) (by ((try simp only [List.length_set, List.length_map, List.length_append, List.length_replicate, List.size_toArray]); omega))))) ?_
            refine TA.take 3 rfl rfl rfl rfl (by kernel_rfl) (by kernel_rfl) (by kernel_rfl) rfl (by kernel_rfl) (by kernel_rfl) (fun _ _ _ h => h) (Y.move rfl rfl) ?_
            refine TA.take 4 rfl rfl rfl rfl (by kernel_rfl) (by kernel_rfl) (by kernel_rfl) rfl (by kernel_rfl) (by kernel_rfl) (fun _ _ _ h => h) (Y.bin rfl rfl rfl (br_addN (n := 1) (by omega))) ?_
            refine TA.take 5 rfl rfl rfl rfl (by kernel_rfl) (by kernel_rfl) (by kernel_rfl) rfl (by kernel_rfl) (by kernel_rfl) (fun _ _ _ h => h) (Y.indexArr rfl ar22 rfl rfl (by omega) (by ((try simp only [Nat.zero_add, Nat.add_zero, Nat.mul_one, Nat.one_mul, Nat.mul_zero, Nat.zero_mul]) <;> rfl))) ?_
            refine TA.take 6 rfl rfl rfl rfl (by kernel_rfl) (by kernel_rfl) (by kernel_rfl) rfl (by kernel_rfl) (by kernel_rfl) (fun _ _ _ h => h) (Y.load rfl sc5 rfl (by first | exact Cel.blk (by with_reducible (repeat first | exact In.here | apply In.there)) (by first | exact getM (d := (0 : UInt8)) (by ((try simp only [List.length_set, List.length_map, List.length_append, List.length_replicate, List.size_toArray]); omega)) | rfl) | exact Cel.rblk (by with_reducible (repeat first | exact In.here | apply In.there)) (by first | exact getM (d := (0 : UInt8)) (by ((try simp only [List.length_set, List.length_map, List.length_append, List.length_replicate, List.size_toArray]); omega)) | rfl) | exact Cel.rds (by with_reducible (repeat first | exact In.here | apply In.there)) (getML (d := (0 : UInt8)) (by ((try simp only [List.length_set, List.length_map, List.length_append, List.length_replicate, List.size_toArray]); omega))) | exact Cel.owns (by with_reducible (repeat first | exact In.here | apply In.there)) (getML (d := (0 : UInt8)) (by ((try simp only [List.length_set, List.length_map, List.length_append, List.length_replicate, List.size_toArray]); omega))) | exact Cel.reads (by assumption) (by with_reducible (repeat first | exact In.here | apply In.there)) (getML (d := (0 : UInt8)) (by ((try simp only [List.length_set, List.length_map, List.length_append, List.length_replicate, List.size_toArray]); omega))))) ?_
            refine TA.take 7 rfl rfl rfl rfl (by kernel_rfl) (by kernel_rfl) (by kernel_rfl) rfl (by kernel_rfl) (by kernel_rfl) (fun _ _ _ h => h) (Y.bin rfl rfl rfl (br_xor8)) ?_
            refine TA.take 8 rfl rfl rfl rfl (by kernel_rfl) (by kernel_rfl) (by kernel_rfl) rfl (by kernel_rfl) (by kernel_rfl) (fun _ _ _ h => h) (Y.move rfl rfl) ?_
            refine TA.take 9 rfl rfl rfl rfl (by kernel_rfl) (by kernel_rfl) (by kernel_rfl) rfl (by kernel_rfl) (by kernel_rfl) (fun _ _ _ h => h) (Y.bin rfl rfl rfl (br_addN (n := 2) (by omega))) ?_
            refine TA.take 10 rfl rfl rfl rfl (by kernel_rfl) (by kernel_rfl) (by kernel_rfl) rfl (by kernel_rfl) (by kernel_rfl) (fun _ _ _ h => h) (Y.indexArr rfl ar22 rfl rfl (by omega) (by ((try simp only [Nat.zero_add, Nat.add_zero, Nat.mul_one, Nat.one_mul, Nat.mul_zero, Nat.zero_mul]) <;> rfl))) ?_
            refine TA.take 11 rfl rfl rfl rfl (by kernel_rfl) (by kernel_rfl) (by kernel_rfl) rfl (by kernel_rfl) (by kernel_rfl) (fun _ _ _ h => h) (Y.load rfl sc5 rfl (by first | exact Cel.blk (by with_reducible (repeat first | exact In.here | apply In.there)) (by first | exact getM (d := (0 : UInt8)) (by ((try simp only [List.length_set, List.length_map, List.length_append, List.length_replicate, List.size_toArray]); omega)) | rfl) | exact Cel.rblk (by with_reducible (repeat first | exact In.here | apply In.there)) (by first | exact getM (d := (0 : UInt8)) (by ((try simp only [List.length_set, List.length_map, List.length_append, List.length_replicate, List.size_toArray]); omega)) | rfl) | exact Cel.rds (by with_reducible (repeat first | exact In.here | apply In.there)) (getML (d := (0 : UInt8)) (by ((try simp only [List.length_set, List.length_map, List.length_append, List.length_replicate, List.size_toArray]); omega))) | exact Cel.owns (by with_reducible (repeat first | exact In.here | apply In.there)) (getML (d := (0 : UInt8)) (by ((try simp only [List.length_set, List.length_map, List.length_append, List.length_replicate, List.size_toArray]); omega))) | exact Cel.reads (by assumption) (by with_reducible (repeat first | exact In.here | apply In.there)) (getML (d := (0 : UInt8)) (by ((try simp only [List.length_set, List.length_map, List.length_append, List.length_replicate, List.size_toArray]); omega))))) ?_
            refine TA.take 12 rfl rfl rfl rfl (by kernel_rfl) (by kernel_rfl) (by kernel_rfl) rfl (by kernel_rfl) (by kernel_rfl) (fun _ _ _ h => h) (Y.bin rfl rfl rfl (br_xor8)) ?_
            refine TA.take 13 rfl rfl rfl rfl (by kernel_rfl) (by kernel_rfl) (by kernel_rfl) rfl (by kernel_rfl) (by kernel_rfl) (fun _ _ _ h => h) (Y.move rfl rfl) ?_
            refine TA.take 14 rfl rfl rfl rfl (by kernel_rfl) (by kernel_rfl) (by kernel_rfl) rfl (by kernel_rfl) (by kernel_rfl) (fun _ _ _ h => h) (Y.bin rfl rfl rfl (br_addN (n := 3) (by omega))) ?_
            refine TA.take 15 rfl rfl rfl rfl (by kernel_rfl) (by kernel_rfl) (by kernel_rfl) rfl (by kernel_rfl) (by kernel_rfl) (fun _ _ _ h => h) (Y.indexArr rfl ar22 rfl rfl (by omega) (by ((try simp only [Nat.zero_add, Nat.add_zero, Nat.mul_one, Nat.one_mul, Nat.mul_zero, Nat.zero_mul]) <;> rfl))) ?_
            refine TA.take 16 rfl rfl rfl rfl (by kernel_rfl) (by kernel_rfl) (by kernel_rfl) rfl (by kernel_rfl) (by kernel_rfl) (fun _ _ _ h => h) (Y.load rfl sc5 rfl (by first | exact Cel.blk (by with_reducible (repeat first | exact In.here | apply In.there)) (by first | exact getM (d := (0 : UInt8)) (by ((try simp only [List.length_set, List.length_map, List.length_append, List.length_replicate, List.size_toArray]); omega)) | rfl) | exact Cel.rblk (by with_reducible (repeat first | exact In.here | apply In.there)) (by first | exact getM (d := (0 : UInt8)) (by ((try simp only [List.length_set, List.length_map, List.length_append, List.length_replicate, List.size_toArray]); omega)) | rfl) | exact Cel.rds (by with_reducible (repeat first | exact In.here | apply In.there)) (getML (d := (0 : UInt8)) (by ((try simp only [List.length_set, List.length_map, List.length_append, List.length_replicate, List.size_toArray]); omega))) | exact Cel.owns (by with_reducible (repeat first | exact In.here | apply In.there)) (getML (d := (0 : UInt8)) (by ((try simp only [List.length_set, List.length_map, List.length_append, List.length_replicate, List.size_toArray]); omega))) | exact Cel.reads (by assumption) (by with_reducible (repeat first | exact In.here | apply In.there)) (getML (d := (0 : UInt8)) (by ((try simp only [List.length_set, List.length_map, List.length_append, List.length_replicate, List.size_toArray]); omega))))) ?_
            refine TA.take 17 rfl rfl rfl rfl (by kernel_rfl) (by kernel_rfl) (by kernel_rfl) rfl (by kernel_rfl) (by kernel_rfl) (fun _ _ _ h => h) (Y.bin rfl rfl rfl (br_xor8)) ?_
            refine TA.take 18 rfl rfl rfl rfl (by kernel_rfl) (by kernel_rfl) (by kernel_rfl) rfl (by kernel_rfl) (by kernel_rfl) (fun _ _ _ h => h) (Y.assign rfl rfl) ?_
            refine TA.done (by kernel_rfl) ?_
            rw [show (mixK U (4 * c)).getD (4 * c) 0 ^^^ (mixK U (4 * c)).getD (4 * c + 1) 0 ^^^ (mixK U (4 * c)).getD (4 * c + 2) 0 ^^^ (mixK U (4 * c)).getD (4 * c + 3) 0 = allS U c by rw [mixK_get U (by omega) (by omega), mixK_get U (by omega) (by omega), mixK_get U (by omega) (by omega), mixK_get U (by omega) (by omega)]; rfl]
            refine TQ.next ?_
            refine TC.seq ?_
            refine TC.region ?_
            refine TL.val rfl rfl rfl (Y.move rfl rfl) ?_
            refine TL.val rfl rfl rfl (Y.indexArr rfl ar22 rfl rfl (by omega) (by ((try simp only [Nat.zero_add, Nat.add_zero, Nat.mul_one, Nat.one_mul, Nat.mul_zero, Nat.zero_mul]) <;> rfl))) ?_
            refine TL.val rfl rfl rfl (Y.load rfl sc5 rfl (by first | exact Cel.blk (by with_reducible (repeat first | exact In.here | apply In.there)) (by first | exact getM (d := (0 : UInt8)) (by ((try simp only [List.length_set, List.length_map, List.length_append, List.length_replicate, List.size_toArray]); omega)) | rfl) | exact Cel.rblk (by with_reducible (repeat first | exact In.here | apply In.there)) (by first | exact getM (d := (0 : UInt8)) (by ((try simp only [List.length_set, List.length_map, List.length_append, List.length_replicate, List.size_toArray]); omega)) | rfl) | exact Cel.rds (by with_reducible (repeat first | exact In.here | apply In.there)) (getML (d := (0 : UInt8)) (by ((try simp only [List.length_set, List.length_map, List.length_append, List.length_replicate, List.size_toArray]); omega))) | exact Cel.owns (by with_reducible (repeat first | exact In.here | apply In.there)) (getML (d := (0 : UInt8)) (by ((try simp only [List.length_set, List.length_map, List.length_append, List.length_replicate, List.size_toArray]); omega))) | exact Cel.reads (by assumption) (by with_reducible (repeat first | exact In.here | apply In.there)) (getML (d := (0 : UInt8)) (by ((try simp only [List.length_set, List.length_map, List.length_append, List.length_replicate, List.size_toArray]); omega))))) ?_
            refine TL.val rfl rfl rfl (Y.assign rfl rfl) ?_
            refine TL.nil ?_
            rw [mixK_get U (show 4 * c < 16 by omega) (Nat.le_refl _)]
            refine TQ.next ?_
            refine TC.seq ?_
            refine TC.seq ?_
            refine TC.region ?_
            refine TL.val rfl rfl rfl (Y.move rfl rfl) ?_
            refine TL.nil ?_
            refine TQ.next ?_
            refine TC.block ?_
            refine TC.loopF (ι := Nat) [] (fun i => i ≤ 3) (fun i => [(67, some (vN i))]) (fun i => [SA.blk b6 ((mixK U (4 * c + i)).map v8).toArray 22]) (fun i => 3 - i) (0) (by omega) ⟨rfl, trivial⟩ (Pulls.cons (by first | (with_reducible (repeat first | exact Pull.here | apply Pull.there); done) | (repeat first | exact Pull.here | apply Pull.there)) Pulls.nil) ?_
            rintro i hi F' L' rfl hL'
            simp only [List.cons_append, List.nil_append] at hL'
            subst hL'
            have hm6 := mixK_len U (4 * c + i)
            refine TC.seq ?_
            refine TC.region ?_
            refine TL.val rfl rfl rfl (Y.bin rfl rfl rfl (br_ltN (n := 3))) ?_
            refine TL.nil ?_
            refine TQ.next ?_
            refine TC.seq ?_
            refine TC.cond rfl (fun c4 => ?_) (fun c4 => ?_)
            · try simp only [decide_eq_true_eq, decide_eq_false_iff_not, Bool.not_eq_true', Bool.not_eq_false', Bool.and_eq_true, Bool.or_eq_true, Nat.not_lt, Nat.not_le, beq_iff_eq, bne_iff_ne] at c4
              refine TC.skip ?_
              refine TQ.next ?_
              refine TC.seq ?_
              refine TC.block ?_
              refine TC.seq ?_
              refine TC.region ?_
              refine TL.val rfl rfl rfl (Y.move rfl rfl) ?_
              refine TL.val rfl rfl rfl (Y.assign rfl rfl) ?_
              refine TL.nil ?_
              refine TQ.next ?_
              refine TC.draws 22 _ (by kernel_rfl) (fun _ h => h) ?_
              refine TA.take 0 rfl rfl rfl rfl (by kernel_rfl) (by kernel_rfl) (by kernel_rfl) rfl (by kernel_rfl) (by kernel_rfl) (fun _ _ _ h => h) (Y.move rfl rfl) ?_
              refine TA.take 1 rfl rfl rfl rfl (by kernel_rfl) (by kernel_rfl) (by kernel_rfl) rfl (by kernel_rfl) (by kernel_rfl) (fun _ _ _ h => h) (Y.move rfl rfl) ?_
              refine TA.take 2 rfl rfl rfl rfl (by kernel_rfl) (by kernel_rfl) (by kernel_rfl) rfl (by kernel_rfl) (by kernel_rfl) (fun _ _ _ h => h) (Y.bin rfl rfl rfl (br_addN (by omega))) ?_
              refine TA.take 3 rfl rfl rfl rfl (by kernel_rfl) (by kernel_rfl) (by kernel_rfl) rfl (by kernel_rfl) (by kernel_rfl) (fun _ _ _ h => h) (Y.indexArr rfl ar22 rfl rfl (by omega) (by ((try simp only [Nat.zero_add, Nat.add_zero, Nat.mul_one, Nat.one_mul, Nat.mul_zero, Nat.zero_mul]) <;> rfl))) ?_
              refine TA.take 4 rfl rfl rfl rfl (by kernel_rfl) (by kernel_rfl) (by kernel_rfl) rfl (by kernel_rfl) (by kernel_rfl) (fun _ _ _ h => h) (Y.load rfl sc5 rfl (by first | exact Cel.blk (by with_reducible (repeat first | exact In.here | apply In.there)) (by first | exact getM (d := (0 : UInt8)) (by ((try simp only [List.length_set, List.length_map, List.length_append, List.length_replicate, List.size_toArray]); omega)) | rfl) | exact Cel.rblk (by with_reducible (repeat first | exact In.here | apply In.there)) (by first | exact getM (d := (0 : UInt8)) (by ((try simp only [List.length_set, List.length_map, List.length_append, List.length_replicate, List.size_toArray]); omega)) | rfl) | exact Cel.rds (by with_reducible (repeat first | exact In.here | apply In.there)) (getML (d := (0 : UInt8)) (by ((try simp only [List.length_set, List.length_map, List.length_append, List.length_replicate, List.size_toArray]); omega))) | exact Cel.owns (by with_reducible (repeat first | exact In.here | apply In.there)) (getML (d := (0 : UInt8)) (by ((try simp only [List.length_set, List.length_map, List.length_append, List.length_replicate, List.size_toArray]); omega))) | exact Cel.reads (by assumption) (by with_reducible (repeat first | exact In.here | apply In.there)) (getML (d := (0 : UInt8)) (by ((try simp only [List.length_set, List.length_map, List.length_append, List.length_replicate, List.size_toArray]); omega))))) ?_
              refine TA.take 5 rfl rfl rfl rfl (by kernel_rfl) (by kernel_rfl) (by kernel_rfl) rfl (by kernel_rfl) (by kernel_rfl) (fun _ _ _ h => h) (Y.move rfl rfl) ?_
              refine TA.take 6 rfl rfl rfl rfl (by kernel_rfl) (by kernel_rfl) (by kernel_rfl) rfl (by kernel_rfl) (by kernel_rfl) (fun _ _ _ h => h) (Y.move rfl rfl) ?_
              refine TA.take 7 rfl rfl rfl rfl (by kernel_rfl) (by kernel_rfl) (by kernel_rfl) rfl (by kernel_rfl) (by kernel_rfl) (fun _ _ _ h => h) (Y.move rfl rfl) ?_
              refine TA.take 8 rfl rfl rfl rfl (by kernel_rfl) (by kernel_rfl) (by kernel_rfl) rfl (by kernel_rfl) (by kernel_rfl) (fun _ _ _ h => h) (Y.bin rfl rfl rfl (br_addN (by omega))) ?_
              refine TA.take 9 rfl rfl rfl rfl (by kernel_rfl) (by kernel_rfl) (by kernel_rfl) rfl (by kernel_rfl) (by kernel_rfl) (fun _ _ _ h => h) (Y.indexArr rfl ar22 rfl rfl (by omega) (by ((try simp only [Nat.zero_add, Nat.add_zero, Nat.mul_one, Nat.one_mul, Nat.mul_zero, Nat.zero_mul]) <;> rfl))) ?_
              refine TA.take 10 rfl rfl rfl rfl (by kernel_rfl) (by kernel_rfl) (by kernel_rfl) rfl (by kernel_rfl) (by kernel_rfl) (fun _ _ _ h => h) (Y.load rfl sc5 rfl (by first | exact Cel.blk (by with_reducible (repeat first | exact In.here | apply In.there)) (by first | exact getM (d := (0 : UInt8)) (by ((try simp only [List.length_set, List.length_map, List.length_append, List.length_replicate, List.size_toArray]); omega)) | rfl) | exact Cel.rblk (by with_reducible (repeat first | exact In.here | apply In.there)) (by first | exact getM (d := (0 : UInt8)) (by ((try simp only [List.length_set, List.length_map, List.length_append, List.length_replicate, List.size_toArray]); omega)) | rfl) | exact Cel.rds (by with_reducible (repeat first | exact In.here | apply In.there)) (getML (d := (0 : UInt8)) (by ((try simp only [List.length_set, List.length_map, List.length_append, List.length_replicate, List.size_toArray]); omega))) | exact Cel.owns (by with_reducible (repeat first | exact In.here | apply In.there)) (getML (d := (0 : UInt8)) (by ((try simp only [List.length_set, List.length_map, List.length_append, List.length_replicate, List.size_toArray]); omega))) | exact Cel.reads (by assumption) (by with_reducible (repeat first | exact In.here | apply In.there)) (getML (d := (0 : UInt8)) (by ((try simp only [List.length_set, List.length_map, List.length_append, List.length_replicate, List.size_toArray]); omega))))) ?_
              refine TA.take 11 rfl rfl rfl rfl (by kernel_rfl) (by kernel_rfl) (by kernel_rfl) rfl (by kernel_rfl) (by kernel_rfl) (fun _ _ _ h => h) (Y.move rfl rfl) ?_
              refine TA.take 12 rfl rfl rfl rfl (by kernel_rfl) (by kernel_rfl) (by kernel_rfl) rfl (by kernel_rfl) (by kernel_rfl) (fun _ _ _ h => h) (Y.move rfl rfl) ?_
              refine TA.take 13 rfl rfl rfl rfl (by kernel_rfl) (by kernel_rfl) (by kernel_rfl) rfl (by kernel_rfl) (by kernel_rfl) (fun _ _ _ h => h) (Y.bin rfl rfl rfl (br_addN (by omega))) ?_
              refine TA.take 14 rfl rfl rfl rfl (by kernel_rfl) (by kernel_rfl) (by kernel_rfl) rfl (by kernel_rfl) (by kernel_rfl) (fun _ _ _ h => h) (Y.bin rfl rfl rfl (br_addN (n := 1) (by omega))) ?_
              refine TA.take 15 rfl rfl rfl rfl (by kernel_rfl) (by kernel_rfl) (by kernel_rfl) rfl (by kernel_rfl) (by kernel_rfl) (fun _ _ _ h => h) (Y.indexArr rfl ar22 rfl rfl (by omega) (by ((try simp only [Nat.zero_add, Nat.add_zero, Nat.mul_one, Nat.one_mul, Nat.mul_zero, Nat.zero_mul]) <;> rfl))) ?_
              refine TA.take 16 rfl rfl rfl rfl (by kernel_rfl) (by kernel_rfl) (by kernel_rfl) rfl (by kernel_rfl) (by kernel_rfl) (fun _ _ _ h => h) (Y.load rfl sc5 rfl (by first | exact Cel.blk (by with_reducible (repeat first | exact In.here | apply In.there)) (by first | exact getM (d := (0 : UInt8)) (by ((try simp only [List.length_set, List.length_map, List.length_append, List.length_replicate, List.size_toArray]); omega)) | rfl) | exact Cel.rblk (by with_reducible (repeat first | exact In.here | apply In.there)) (by first | exact getM (d := (0 : UInt8)) (by ((try simp only [List.length_set, List.length_map, List.length_append, List.length_replicate, List.size_toArray]); omega)) | rfl) | exact Cel.rds (by with_reducible (repeat first | exact In.here | apply In.there)) (getML (d := (0 : UInt8)) (by ((try simp only [List.length_set, List.length_map, List.length_append, List.length_replicate, List.size_toArray]); omega))) | exact Cel.owns (by with_reducible (repeat first | exact In.here | apply In.there)) (getML (d := (0 : UInt8)) (by ((try simp only [List.length_set, List.length_map, List.length_append, List.length_replicate, List.size_toArray]); omega))) | exact Cel.reads (by assumption) (by with_reducible (repeat first | exact In.here | apply In.there)) (getML (d := (0 : UInt8)) (by ((try simp only [List.length_set, List.length_map, List.length_append, List.length_replicate, List.size_toArray]); omega))))) ?_
              refine TA.take 17 rfl rfl rfl rfl (by kernel_rfl) (by kernel_rfl) (by kernel_rfl) rfl (by kernel_rfl) (by kernel_rfl) (fun _ _ _ h => h) (Y.bin rfl rfl rfl (br_xor8)) ?_
              refine TA.one 18 (by kernel_rfl) rfl rfl rfl rfl (X.call rfl Try.func17 (by kernel_rfl) rfl rfl (dbl_fn _ _)) ?_
              rintro _ _ ⟨rfl, rfl⟩
              refine ⟨(Or.inr (fun w h A hA => h A (by with_reducible (first | assumption | (repeat first | exact In.there hA | apply In.there))))), ?_⟩
              refine TA.take 19 rfl rfl rfl rfl (by kernel_rfl) (by kernel_rfl) (by kernel_rfl) rfl (by kernel_rfl) (by kernel_rfl) (fun _ _ _ h => h) (Y.bin rfl rfl rfl (br_xor8)) ?_
              refine TA.take 20 rfl rfl rfl rfl (by kernel_rfl) (by kernel_rfl) (by kernel_rfl) rfl (by kernel_rfl) (by kernel_rfl) (fun _ _ _ h => h) (Y.bin rfl rfl rfl (br_xor8)) ?_
              refine TA.take 21 rfl rfl rfl rfl (by kernel_rfl) (by kernel_rfl) (by kernel_rfl) rfl (by kernel_rfl) (by kernel_rfl) (fun _ _ _ h => h) (Y.indexArr rfl ar22 rfl rfl (by omega) (by ((try simp only [Nat.zero_add, Nat.add_zero, Nat.mul_one, Nat.one_mul, Nat.mul_zero, Nat.zero_mul]) <;> rfl))) ?_
              refine TA.one0 22 (by kernel_rfl) rfl rfl rfl (by first | exact X.store rfl sz5 rfl rfl rfl (by first | (with_reducible (repeat first | exact Pull.here | apply Pull.there); done) | (repeat first | exact Pull.here | apply Pull.there)) (by ((try simp only [List.length_set, List.length_map, List.length_append, List.length_replicate, List.size_toArray]); omega)) (by first | exact setM | rfl) | exact X.storeOwn rfl sz5 rfl (Nat.zero_add _).symm rfl rfl (by first | (with_reducible (repeat first | exact Pull.here | apply Pull.there); done) | (repeat first | exact Pull.here | apply Pull.there)) (by ((try simp only [List.length_set, List.length_map, List.length_append, List.length_replicate, List.size_toArray]); omega)) (by first | exact setML | rfl)) ?_
              rintro _ _ rfl
              refine ⟨(Or.inl (by kernel_rfl)), ?_⟩
              refine TA.done (by kernel_rfl) ?_
              refine TQ.block_normal ?_
              refine TQ.next ?_
              refine TC.region ?_
              refine TL.val rfl rfl rfl (Y.bin rfl rfl rfl (br_addN (n := 1) (by omega))) ?_
              refine TL.val rfl rfl rfl (Y.move rfl rfl) ?_
              refine TL.nil ?_
              rw [mixK_set U (k := 4 * c + i) (by rw [mixK_get U (by omega) (by omega), mixK_get U (by omega) (by omega), mix_at U c i (by omega), show 4 * c + (i + 1) % 4 = 4 * c + i + 1 by omega])]
              refine TQ.loopF (i + 1) (by omega) (by omega) ⟨rfl, trivial⟩ (by (repeat first | exact Grow.refl | apply Grow.step | apply Grow.app)) ?_ ?_ ?_
              · kernel_rfl
              · rfl
              · simp only [List.cons_append, List.nil_append]
                exact (by (repeat first | (with_reducible exact Ent.refl) | (with_reducible exact Ent.nil) | refine Ent.cons (by first | (with_reducible (repeat first | exact Pull.here | apply Pull.there); done) | (repeat first | exact Pull.here | apply Pull.there)) ?_ | refine Ent.skip ?_))
            · try simp only [decide_eq_true_eq, decide_eq_false_iff_not, Bool.not_eq_true', Bool.not_eq_false', Bool.and_eq_true, Bool.or_eq_true, Nat.not_lt, Nat.not_le, beq_iff_eq, bne_iff_ne] at c4
              refine TC.exit ?_
              refine TQ.then_exit ?_
              refine TQ.then_exit ?_
              refine TQ.block_exit ?_
              refine TQ.next ?_
              obtain rfl : i = 3 := by omega
              refine TC.draws 15 _ (by kernel_rfl) (fun _ h => h) ?_
              refine TA.take 0 rfl rfl rfl rfl (by kernel_rfl) (by kernel_rfl) (by kernel_rfl) rfl (by kernel_rfl) (by kernel_rfl) (fun _ _ _ h => h) (Y.move rfl rfl) ?_
              refine TA.take 1 rfl rfl rfl rfl (by kernel_rfl) (by kernel_rfl) (by kernel_rfl) rfl (by kernel_rfl) (by kernel_rfl) (fun _ _ _ h => h) (Y.bin rfl rfl rfl (br_addN (n := 3) (by omega))) ?_
              refine TA.take 2 rfl rfl rfl rfl (by kernel_rfl) (by kernel_rfl) (by kernel_rfl) rfl (by kernel_rfl) (by kernel_rfl) (fun _ _ _ h => h) (Y.indexArr rfl ar22 rfl rfl (by omega) (by ((try simp only [Nat.zero_add, Nat.add_zero, Nat.mul_one, Nat.one_mul, Nat.mul_zero, Nat.zero_mul]) <;> rfl))) ?_
              refine TA.take 3 rfl rfl rfl rfl (by kernel_rfl) (by kernel_rfl) (by kernel_rfl) rfl (by kernel_rfl) (by kernel_rfl) (fun _ _ _ h => h) (Y.load rfl sc5 rfl (by first | exact Cel.blk (by with_reducible (repeat first | exact In.here | apply In.there)) (by first | exact getM (d := (0 : UInt8)) (by ((try simp only [List.length_set, List.length_map, List.length_append, List.length_replicate, List.size_toArray]); omega)) | rfl) | exact Cel.rblk (by with_reducible (repeat first | exact In.here | apply In.there)) (by first | exact getM (d := (0 : UInt8)) (by ((try simp only [List.length_set, List.length_map, List.length_append, List.length_replicate, List.size_toArray]); omega)) | rfl) | exact Cel.rds (by with_reducible (repeat first | exact In.here | apply In.there)) (getML (d := (0 : UInt8)) (by ((try simp only [List.length_set, List.length_map, List.length_append, List.length_replicate, List.size_toArray]); omega))) | exact Cel.owns (by with_reducible (repeat first | exact In.here | apply In.there)) (getML (d := (0 : UInt8)) (by ((try simp only [List.length_set, List.length_map, List.length_append, List.length_replicate, List.size_toArray]); omega))) | exact Cel.reads (by assumption) (by with_reducible (repeat first | exact In.here | apply In.there)) (getML (d := (0 : UInt8)) (by ((try simp only [List.length_set, List.length_map, List.length_append, List.length_replicate, List.size_toArray]); omega))))) ?_
              refine TA.take 4 rfl rfl rfl rfl (by kernel_rfl) (by kernel_rfl) (by kernel_rfl) rfl (by kernel_rfl) (by kernel_rfl) (fun _ _ _ h => h) (Y.move rfl rfl) ?_
              refine TA.take 5 rfl rfl rfl rfl (by kernel_rfl) (by kernel_rfl) (by kernel_rfl) rfl (by kernel_rfl) (by kernel_rfl) (fun _ _ _ h => h) (Y.move rfl rfl) ?_
              refine TA.take 6 rfl rfl rfl rfl (by kernel_rfl) (by kernel_rfl) (by kernel_rfl) rfl (by kernel_rfl) (by kernel_rfl) (fun _ _ _ h => h) (Y.bin rfl rfl rfl (br_addN (n := 3) (by omega))) ?_
              refine TA.take 7 rfl rfl rfl rfl (by kernel_rfl) (by kernel_rfl) (by kernel_rfl) rfl (by kernel_rfl) (by kernel_rfl) (fun _ _ _ h => h) (Y.indexArr rfl ar22 rfl rfl (by omega) (by ((try simp only [Nat.zero_add, Nat.add_zero, Nat.mul_one, Nat.one_mul, Nat.mul_zero, Nat.zero_mul]) <;> rfl))) ?_
              refine TA.take 8 rfl rfl rfl rfl (by kernel_rfl) (by kernel_rfl) (by kernel_rfl) rfl (by kernel_rfl) (by kernel_rfl) (fun _ _ _ h => h) (Y.load rfl sc5 rfl (by first | exact Cel.blk (by with_reducible (repeat first | exact In.here | apply In.there)) (by first | exact getM (d := (0 : UInt8)) (by ((try simp only [List.length_set, List.length_map, List.length_append, List.length_replicate, List.size_toArray]); omega)) | rfl) | exact Cel.rblk (by with_reducible (repeat first | exact In.here | apply In.there)) (by first | exact getM (d := (0 : UInt8)) (by ((try simp only [List.length_set, List.length_map, List.length_append, List.length_replicate, List.size_toArray]); omega)) | rfl) | exact Cel.rds (by with_reducible (repeat first | exact In.here | apply In.there)) (getML (d := (0 : UInt8)) (by ((try simp only [List.length_set, List.length_map, List.length_append, List.length_replicate, List.size_toArray]); omega))) | exact Cel.owns (by with_reducible (repeat first | exact In.here | apply In.there)) (getML (d := (0 : UInt8)) (by ((try simp only [List.length_set, List.length_map, List.length_append, List.length_replicate, List.size_toArray]); omega))) | exact Cel.reads (by assumption) (by with_reducible (repeat first | exact In.here | apply In.there)) (getML (d := (0 : UInt8)) (by ((try simp only [List.length_set, List.length_map, List.length_append, List.length_replicate, List.size_toArray]); omega))))) ?_
              refine TA.take 9 rfl rfl rfl rfl (by kernel_rfl) (by kernel_rfl) (by kernel_rfl) rfl (by kernel_rfl) (by kernel_rfl) (fun _ _ _ h => h) (Y.move rfl rfl) ?_
              refine TA.take 10 rfl rfl rfl rfl (by kernel_rfl) (by kernel_rfl) (by kernel_rfl) rfl (by kernel_rfl) (by kernel_rfl) (fun _ _ _ h => h) (Y.bin rfl rfl rfl (br_xor8)) ?_
              refine TA.one 11 (by kernel_rfl) rfl rfl rfl rfl (X.call rfl Try.func17 (by kernel_rfl) rfl rfl (dbl_fn _ _)) ?_
              rintro _ _ ⟨rfl, rfl⟩
              refine ⟨(Or.inr (fun w h A hA => h A (by with_reducible (first | assumption | (repeat first | exact In.there hA | apply In.there))))), ?_⟩
              refine TA.take 12 rfl rfl rfl rfl (by kernel_rfl) (by kernel_rfl) (by kernel_rfl) rfl (by kernel_rfl) (by kernel_rfl) (fun _ _ _ h => h) (Y.bin rfl rfl rfl (br_xor8)) ?_
              refine TA.take 13 rfl rfl rfl rfl (by kernel_rfl) (by kernel_rfl) (by kernel_rfl) rfl (by kernel_rfl) (by kernel_rfl) (fun _ _ _ h => h) (Y.bin rfl rfl rfl (br_xor8)) ?_
              refine TA.take 14 rfl rfl rfl rfl (by kernel_rfl) (by kernel_rfl) (by kernel_rfl) rfl (by kernel_rfl) (by kernel_rfl) (fun _ _ _ h => h) (Y.indexArr rfl ar22 rfl rfl (by omega) (by ((try simp only [Nat.zero_add, Nat.add_zero, Nat.mul_one, Nat.one_mul, Nat.mul_zero, Nat.zero_mul]) <;> rfl))) ?_
              refine TA.one0 15 (by kernel_rfl) rfl rfl rfl (by first | exact X.store rfl sz5 rfl rfl rfl (by first | (with_reducible (repeat first | exact Pull.here | apply Pull.there); done) | (repeat first | exact Pull.here | apply Pull.there)) (by ((try simp only [List.length_set, List.length_map, List.length_append, List.length_replicate, List.size_toArray]); omega)) (by first | exact setM | rfl) | exact X.storeOwn rfl sz5 rfl (Nat.zero_add _).symm rfl rfl (by first | (with_reducible (repeat first | exact Pull.here | apply Pull.there); done) | (repeat first | exact Pull.here | apply Pull.there)) (by ((try simp only [List.length_set, List.length_map, List.length_append, List.length_replicate, List.size_toArray]); omega)) (by first | exact setML | rfl)) ?_
              rintro _ _ rfl
              refine ⟨(Or.inl (by kernel_rfl)), ?_⟩
              refine TA.done (by kernel_rfl) ?_
              refine TQ.block_normal ?_
              refine TQ.next ?_
              refine TC.region ?_
              refine TL.val rfl rfl rfl (Y.move rfl rfl) ?_
              refine TL.val rfl rfl rfl (Y.bin rfl rfl rfl (br_addN (n := 4) (by omega))) ?_
              refine TL.val rfl rfl rfl (Y.assign rfl rfl) ?_
              refine TL.nil ?_
              rw [mixK_set U (k := 4 * c + 3) (by rw [mixK_get U (by omega) (by omega), mix_at U c 3 (by omega), show 4 * c + (3 + 1) % 4 = 4 * c by omega])]
              refine TQ.loopF (c + 1) (by omega) (by omega) ⟨rfl, trivial⟩ (by (repeat first | exact Grow.refl | apply Grow.step | apply Grow.app)) ?_ ?_ ?_
              · kernel_rfl
              · rfl
              · simp only [List.cons_append, List.nil_append]
                exact (by (repeat first | (with_reducible exact Ent.refl) | (with_reducible exact Ent.nil) | refine Ent.cons (by first | (with_reducible (repeat first | exact Pull.here | apply Pull.there); done) | (repeat first | exact Pull.here | apply Pull.there)) ?_ | refine Ent.skip ?_))
          · try simp only [decide_eq_true_eq, decide_eq_false_iff_not, Bool.not_eq_true', Bool.not_eq_false', Bool.and_eq_true, Bool.or_eq_true, Nat.not_lt, Nat.not_le, beq_iff_eq, bne_iff_ne] at c3
            obtain rfl : c = 4 := by omega
            rw [show mixK U (4 * 4) = tab 16 (mixS U) from mixK_16 U]
            refine TC.exit ?_
            refine TQ.then_exit ?_
            refine TQ.then_exit ?_
            refine TQ.block_exit ?_
            refine TQ.meetF (()) (trivial) trivial (by (repeat first | exact Grow.refl | apply Grow.step | apply Grow.app)) ?_ ?_
            · kernel_rfl
            · simp only [List.cons_append, List.nil_append]
              exact (by first | (rw [if_pos c2]; exact (by (repeat first | (with_reducible exact Ent.refl) | (with_reducible exact Ent.nil) | refine Ent.cons (by first | (with_reducible (repeat first | exact Pull.here | apply Pull.there); done) | (repeat first | exact Pull.here | apply Pull.there)) ?_ | refine Ent.skip ?_))) | (rw [if_neg (by omega)]; exact (by (repeat first | (with_reducible exact Ent.refl) | (with_reducible exact Ent.nil) | refine Ent.cons (by first | (with_reducible (repeat first | exact Pull.here | apply Pull.there); done) | (repeat first | exact Pull.here | apply Pull.there)) ?_ | refine Ent.skip ?_))))
        · try simp only [decide_eq_true_eq, decide_eq_false_iff_not, Bool.not_eq_true', Bool.not_eq_false', Bool.and_eq_true, Bool.or_eq_true, Nat.not_lt, Nat.not_le, beq_iff_eq, bne_iff_ne] at c2
          refine TC.skip ?_
          refine TQ.meetF (()) (trivial) trivial (by (repeat first | exact Grow.refl | apply Grow.step | apply Grow.app)) ?_ ?_
          · kernel_rfl
          · simp only [List.cons_append, List.nil_append]
            exact (by first | (rw [if_pos c2]; exact (by (repeat first | (with_reducible exact Ent.refl) | (with_reducible exact Ent.nil) | refine Ent.cons (by first | (with_reducible (repeat first | exact Pull.here | apply Pull.there); done) | (repeat first | exact Pull.here | apply Pull.there)) ?_ | refine Ent.skip ?_))) | (rw [if_neg (by omega)]; exact (by (repeat first | (with_reducible exact Ent.refl) | (with_reducible exact Ent.nil) | refine Ent.cons (by first | (with_reducible (repeat first | exact Pull.here | apply Pull.there); done) | (repeat first | exact Pull.here | apply Pull.there)) ?_ | refine Ent.skip ?_))))
      · rintro ⟨⟩ - F' L' rfl hL'
        simp only [List.cons_append, List.nil_append] at hL'
        subst hL'
        generalize hV : (if j + 1 < 10 then mixS U else U) = V
        have hvl : (tab 16 V).length = 16 := tab_len
        refine TC.seq ?_
        refine TC.region ?_
        refine TL.val rfl rfl rfl (Y.move rfl rfl) ?_
        refine TL.val rfl rfl rfl (Y.move rfl rfl) ?_
        refine TL.val rfl rfl rfl (Y.nilCheck rfl rfl) ?_
        refine TL.val rfl rfl rfl (Y.fieldAddr rfl fo44_1 rfl (by ((try simp only [Nat.zero_add, Nat.add_zero, Nat.mul_one, Nat.one_mul, Nat.mul_zero, Nat.zero_mul]) <;> rfl))) ?_
        refine TL.val rfl rfl rfl (Y.indexArr rfl ar42 rfl rfl (by omega) (by ((try simp only [Nat.zero_add, Nat.add_zero, Nat.mul_one, Nat.one_mul, Nat.mul_zero, Nat.zero_mul]) <;> rfl))) ?_
        refine TL.eff rfl rfl rfl (X.call rfl Try.func18 (by kernel_rfl) rfl rfl (Fn.pre (xor_fn b6 bc T V (mem key) (256 + (j + 1) * 16) (by omega) _) (Ent.cons (by first | (with_reducible (repeat first | exact Pull.here | apply Pull.there); done) | (repeat first | exact Pull.here | apply Pull.there)) (Ent.cons (by first | (with_reducible (repeat first | exact Pull.here | apply Pull.there); done) | (repeat first | exact Pull.here | apply Pull.there)) Ent.refl)))) ?_
        rintro _ _ ⟨rfl, rfl⟩
        rw [addK_eqr key (j + 1) (by omega)]
        have hwl : (tab 16 (addK key (j + 1) V)).length = 16 := tab_len
        refine TL.nil ?_
        refine TQ.next ?_
        refine TC.region ?_
        refine TL.val rfl rfl rfl (Y.loadAgg rfl ag22 rfl (Cels.full (by with_reducible (repeat first | exact In.here | apply In.there))) (by ((try simp only [List.length_map, List.length_set, List.length_replicate]); omega))) ?_
        refine TL.eff0 rfl rfl (by first | exact X.storeAll rfl sz22 (by ((try simp only [List.size_toArray, List.length_set, List.length_map, List.length_append, List.length_replicate, List.length_cons, List.length_nil]); (first | done | omega | (simp [*]; done)))) rfl rfl (by simp [Value.oneCell']) (by first | (with_reducible (repeat first | exact Pull.here | apply Pull.there); done) | (repeat first | exact Pull.here | apply Pull.there)) (by ((try simp only [List.size_toArray, List.length_set, List.length_map, List.length_append, List.length_replicate, List.length_cons, List.length_nil]); (first | done | omega | (simp [*]; done)))) | exact X.storeAgg rfl sz22 (by ((try simp only [List.size_toArray, List.length_set, List.length_map, List.length_append, List.length_replicate, List.length_cons, List.length_nil]); (first | done | omega | (simp [*]; done)))) rfl rfl (by simp [Value.oneCell']) (by first | (with_reducible (repeat first | exact Pull.here | apply Pull.there); done) | (repeat first | exact Pull.here | apply Pull.there)) (by ((try simp only [List.size_toArray, List.length_set, List.length_map, List.length_append, List.length_replicate, List.length_cons, List.length_nil]); (first | done | omega | (simp [*]; done)))) (writeM (by ((try simp only [List.length_set, List.length_map, List.length_append, List.length_replicate]); omega)))) ?_
        rintro _ _ rfl
        refine TL.nil ?_
        refine TQ.block_normal ?_
        refine TQ.next ?_
        refine TC.region ?_
        refine TL.val rfl rfl rfl (Y.move rfl rfl) ?_
        refine TL.val rfl rfl rfl (Y.bin rfl rfl rfl (br_addN (n := 1) (by omega))) ?_
        refine TL.val rfl rfl rfl (Y.assign rfl rfl) ?_
        refine TL.nil ?_
        refine TQ.loopF (j + 1) (by omega) (by omega) ⟨rfl, trivial⟩ (by (repeat first | exact Grow.refl | apply Grow.step | apply Grow.app)) ?_ ?_ ?_
        · kernel_rfl
        · rfl
        · simp only [List.cons_append, List.nil_append]
          exact (by rw [show rnds key s (j + 1) = addK key (j + 1) V by rw [rnds, rnd, hS, hU, hV]]; exact (by (repeat first | (with_reducible exact Ent.refl) | (with_reducible exact Ent.nil) | refine Ent.cons (by first | (with_reducible (repeat first | exact Pull.here | apply Pull.there); done) | (repeat first | exact Pull.here | apply Pull.there)) ?_ | refine Ent.skip ?_)))
  · try simp only [decide_eq_true_eq, decide_eq_false_iff_not, Bool.not_eq_true', Bool.not_eq_false', Bool.and_eq_true, Bool.or_eq_true, Nat.not_lt, Nat.not_le, beq_iff_eq, bne_iff_ne] at c0
    refine TC.exit ?_
    refine TQ.then_exit ?_
    refine TQ.then_exit ?_
    refine TQ.block_exit ?_
    refine TQ.next ?_
    refine TC.seq ?_
    obtain rfl : j = 10 := by omega
    rw [← hS]
    have hfl : (tab 16 (rnds key s 10)).length = 16 := tab_len
    refine TC.region ?_
    refine TL.val rfl rfl rfl (Y.loadAgg rfl ag22 rfl (Cels.full (by with_reducible (repeat first | exact In.here | apply In.there))) (by ((try simp only [List.length_map, List.length_set, List.length_replicate]); omega))) ?_
    refine TL.eff0 rfl rfl (by first | exact X.storeAll rfl sz22 (by ((try simp only [List.size_toArray, List.length_set, List.length_map, List.length_append, List.length_replicate, List.length_cons, List.length_nil]); (first | done | omega | (simp [*]; done)))) rfl rfl (by simp [Value.oneCell']) (by first | (with_reducible (repeat first | exact Pull.here | apply Pull.there); done) | (repeat first | exact Pull.here | apply Pull.there)) (by ((try simp only [List.size_toArray, List.length_set, List.length_map, List.length_append, List.length_replicate, List.length_cons, List.length_nil]); (first | done | omega | (simp [*]; done)))) | exact X.storeAgg rfl sz22 (by ((try simp only [List.size_toArray, List.length_set, List.length_map, List.length_append, List.length_replicate, List.length_cons, List.length_nil]); (first | done | omega | (simp [*]; done)))) rfl rfl (by simp [Value.oneCell']) (by first | (with_reducible (repeat first | exact Pull.here | apply Pull.there); done) | (repeat first | exact Pull.here | apply Pull.there)) (by ((try simp only [List.size_toArray, List.length_set, List.length_map, List.length_append, List.length_replicate, List.length_cons, List.length_nil]); (first | done | omega | (simp [*]; done)))) (writeM (by ((try simp only [List.length_set, List.length_map, List.length_append, List.length_replicate]); omega)))) ?_
    rintro _ _ rfl
    refine TL.nil ?_
    refine TQ.next ?_
    refine TC.ret ?_
    refine TQ.retE (resC rfl ag22 rfl (Cels.full (by with_reducible (repeat first | exact In.here | apply In.there))) (by ((try simp only [List.size_toArray, List.length_set, List.length_map, List.length_append, List.length_replicate, List.length_cons, List.length_nil]); (first | done | omega | (simp [*]; done))))) (⟨rfl, rfl⟩) ?_
    exact (by (repeat first | (with_reducible exact Ent.refl) | (with_reducible exact Ent.nil) | refine Ent.cons (by first | (with_reducible (repeat first | exact Pull.here | apply Pull.there); done) | (repeat first | exact Pull.here | apply Pull.there)) ?_ | refine Ent.skip ?_))
end aes
end Go.Proofs.Ytpddnhjpjmbgfaa
