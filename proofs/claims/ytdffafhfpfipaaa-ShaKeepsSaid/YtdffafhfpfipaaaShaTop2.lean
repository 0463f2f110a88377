/- More statements on SHA-1, walked: the CRC of pieces xored, the lengths about the ends of blocks, what is handed in stays. -/
import Derived.Test.YtdffafhfpfipaaaShaTop
namespace Go.Proofs.Ytdffafhfpfipaaa
set_option linter.unusedVariables false
set_option linter.unusedSimpArgs false
open Go.RowKit
namespace sha
namespace FxShaTop2
set_option maxRecDepth 100000
theorem el22 : Elt Try.prog 22 5 1 1 (.int .u8 0) := ⟨Try.underlying22, by kernel_rfl, rfl, by decide, by simp [Value.cells, Value.oneCell']⟩
theorem sc5 : Program.isSc Try.prog 5 = true := by kernel_rfl
theorem sl22 : Program.slI Try.prog 22 = some 1 := by kernel_rfl
theorem sz5 : (Try.prog.info? 5).map (·.size) = some 1 := by kernel_rfl
end FxShaTop2
open FxShaTop2
theorem xor32_toNat (a b : UInt32) : (a ^^^ b).toNat = a.toNat ^^^ b.toNat := UInt32.toNat_xor a b
theorem shr32_xor (a b : UInt32) (n : Nat) : shr32 (a ^^^ b) n = shr32 a n ^^^ shr32 b n := by
  apply UInt32.toNat_inj.1
  have h := Nat.shiftRight_xor_distrib (a := a.toNat) (b := b.toNat) (i := n)
  simp only [Nat.shiftRight_eq_div_pow] at h
  have ha : a.toNat / 2 ^ n ≤ a.toNat := Nat.div_le_self _ _
  have hb : b.toNat / 2 ^ n ≤ b.toNat := Nat.div_le_self _ _
  have hc : (a ^^^ b).toNat / 2 ^ n ≤ (a ^^^ b).toNat := Nat.div_le_self _ _
  have h1 := a.toNat_lt; have h2 := b.toNat_lt; have h3 := (a ^^^ b).toNat_lt
  rw [UInt32.toNat_xor]
  simp only [shr32, UInt32.toNat_ofNat']
  rw [Nat.mod_eq_of_lt (by omega), Nat.mod_eq_of_lt (by omega), Nat.mod_eq_of_lt (by omega), UInt32.toNat_xor, h]
theorem low1 (c : UInt32) : (c &&& 1) = 0 ∨ (c &&& 1) = 1 := by
  have := Nat.and_two_pow_sub_one_eq_mod c.toNat 1
  have h2 : (c &&& 1).toNat = c.toNat % 2 := by rw [UInt32.toNat_and]; exact this
  rcases Nat.mod_two_eq_zero_or_one c.toNat with h | h
  · left; apply UInt32.toNat_inj.1; rw [h2, h]; rfl
  · right; apply UInt32.toNat_inj.1; rw [h2, h]; rfl
theorem and_xor1 (a b : UInt32) : (a ^^^ b) &&& 1 = (a &&& 1) ^^^ (b &&& 1) := by
  apply bits32; intro i
  simp only [UInt32.toBitVec_and, UInt32.toBitVec_xor, BitVec.getLsbD_and, BitVec.getLsbD_xor]
  cases a.toBitVec.getLsbD i <;> cases b.toBitVec.getLsbD i <;> simp
theorem x4 (a b c d : UInt32) : (a ^^^ b) ^^^ (c ^^^ d) = (a ^^^ c) ^^^ (b ^^^ d) := by
  apply bits32; intro i
  simp only [UInt32.toBitVec_xor, BitVec.getLsbD_xor]
  cases a.toBitVec.getLsbD i <;> cases b.toBitVec.getLsbD i <;> cases c.toBitVec.getLsbD i <;> cases d.toBitVec.getLsbD i <;> rfl
theorem cstep_xor (a b : UInt32) : cstep (a ^^^ b) = cstep a ^^^ cstep b := by
  simp only [cstep]
  rw [shr32_xor, and_xor1, x4]
  congr 1
  rcases low1 a with ha | ha <;> rcases low1 b with hb | hb <;> rw [ha, hb] <;> decide
theorem iterC_xor (a b : UInt32) : ∀ k, iterC (a ^^^ b) k = iterC a k ^^^ iterC b k
  | 0 => rfl
  | k + 1 => by rw [iterC, iterC, iterC, iterC_xor a b k, cstep_xor]
theorem x3 (a b c : UInt32) : ~~~(a ^^^ b ^^^ c) = ~~~a ^^^ ~~~b ^^^ ~~~c := by
  apply bits32; intro i
  simp only [UInt32.toBitVec_xor, UInt32.toBitVec_not, BitVec.getLsbD_xor, BitVec.getLsbD_not]
  by_cases hi : i < 32
  · simp only [hi, decide_true, Bool.true_and]
    cases a.toBitVec.getLsbD i <;> cases b.toBitVec.getLsbD i <;> cases c.toBitVec.getLsbD i <;> rfl
  · have h1 : a.toBitVec.getLsbD i = false := BitVec.getLsbD_of_ge _ _ (by omega)
    have h2 : b.toBitVec.getLsbD i = false := BitVec.getLsbD_of_ge _ _ (by omega)
    have h3 : c.toBitVec.getLsbD i = false := BitVec.getLsbD_of_ge _ _ (by omega)
    simp [hi, h1, h2, h3]
theorem x6 (a b c x y : UInt32) : (a ^^^ b ^^^ c) ^^^ (x ^^^ y) = (a ^^^ x) ^^^ (b ^^^ y) ^^^ (c ^^^ 0) := by
  apply bits32; intro i
  simp only [UInt32.toBitVec_xor, BitVec.getLsbD_xor, UInt32.toBitVec_ofNat, BitVec.getLsbD_zero]
  cases a.toBitVec.getLsbD i <;> cases b.toBitVec.getLsbD i <;> cases c.toBitVec.getLsbD i <;> cases x.toBitVec.getLsbD i <;> cases y.toBitVec.getLsbD i <;> rfl
theorem toU32_xor (a b : UInt8) : (a ^^^ b).toUInt32 = a.toUInt32 ^^^ b.toUInt32 := by
  apply UInt32.toNat_inj.1; rw [UInt32.toNat_xor]; simp
def zw (xs ys : List UInt8) (n k : Nat) : List UInt8 := tab n fun i => if i < k then xs.getD i 0 ^^^ ys.getD i 0 else 0
def cp (xs : List UInt8) (n k : Nat) : List UInt8 := tab n fun i => if i < k then xs.getD i 0 else 0
theorem crcN_xor (xs ys : List UInt8) (n : Nat) : ∀ k, k ≤ n → crcN (zw xs ys n n) k = crcN (cp xs n n) k ^^^ crcN (cp ys n n) k ^^^ crcN (List.replicate n 0) k
  | 0, _ => by show (4294967295 : UInt32) = 4294967295 ^^^ 4294967295 ^^^ 4294967295; decide
  | k + 1, hk => by
    rw [crcN, crcN, crcN, crcN, crcN_xor xs ys n k (by omega), zw, cp, cp, tab_rep, tab_getD (by omega), tab_getD (by omega), tab_getD (by omega), tab_getD (by omega), if_pos (by omega), if_pos (by omega), if_pos (by omega), toU32_xor,
      ← iterC_xor, ← iterC_xor, x6]; rfl
theorem crc_xor (xs ys : List UInt8) (n : Nat) : crc (zw xs ys n n) = crc (cp xs n n) ^^^ crc (cp ys n n) ^^^ crc (List.replicate n 0) := by
  simp only [crc]
  rw [show (zw xs ys n n).length = n from tab_len, show (cp xs n n).length = n from tab_len, show (cp ys n n).length = n from tab_len, List.length_replicate, crcN_xor xs ys n n (Nat.le_refl _), x3]
theorem cp_0 (xs : List UInt8) (n : Nat) : List.replicate n 0 = cp xs n 0 := by rw [tab_rep, cp]; exact tab_congr fun i _ => by simp
theorem zw_0 (xs ys : List UInt8) (n : Nat) : List.replicate n 0 = zw xs ys n 0 := by rw [tab_rep, zw]; exact tab_congr fun i _ => by simp
theorem cp_s (xs : List UInt8) (n k : Nat) : (cp xs n k).set k (xs.getD k 0) = cp xs n (k + 1) := by
  rw [cp, tab_set, cp]; refine tab_congr fun i _ => ?_
  by_cases h : i = k
  · rw [if_pos h, if_pos (by omega), h]
  · rw [if_neg h]
    by_cases h2 : i < k
    · rw [if_pos h2, if_pos (by omega)]
    · rw [if_neg h2, if_neg (by omega)]
theorem zw_s (xs ys : List UInt8) (n k : Nat) : (zw xs ys n k).set k (xs.getD k 0 ^^^ ys.getD k 0) = zw xs ys n (k + 1) := by
  rw [zw, tab_set, zw]; refine tab_congr fun i _ => ?_
  by_cases h : i = k
  · rw [if_pos h, if_pos (by omega), h]
  · rw [if_neg h]
    by_cases h2 : i < k
    · rw [if_pos h2, if_pos (by omega)]
    · rw [if_neg h2, if_neg (by omega)]
theorem cp_len (xs : List UInt8) (n k : Nat) : (cp xs n k).length = n := tab_len
theorem zw_len (xs ys : List UInt8) (n k : Nat) : (zw xs ys n k).length = n := tab_len
theorem made0 (n : Nat) : (madeCells (Value.int .u8 0).cells (n * 1)).toList = (List.replicate n (0 : UInt8)).map v8 := by
  rw [Nat.mul_one]; simp [Value.cells, madeCells_rep]
set_option maxHeartbeats 1000000 in
theorem crcs_fn (a : Option Addr) (na ca : Nat) (xs : List UInt8) (hna : xs.length = na) (b : Option Addr) (nb cb : Nat) (ys : List UInt8) (hnb : ys.length = nb) (hla : na ≤ 140737488351232) (hlb : nb ≤ 140737488351232) (L : List SA) :
    Fn Try.prog 4 [.slice a na ca, .slice b nb cb] (SA.rds 1 (.slice a na ca) na (xs.map v8) :: SA.rds 1 (.slice b nb cb) nb (ys.map v8) :: L)
      (fun v L' => v = .bool true ∧ L' = SA.rds 1 (.slice a na ca) na (xs.map v8) :: SA.rds 1 (.slice b nb cb) nb (ys.map v8) :: L) := by
  subst hna; subst hnb
  have R1 : Reads (SA.rds 1 (.slice a xs.length ca) xs.length (xs.map v8)) 1 (.slice a xs.length ca) xs.length (xs.map v8) := Reads.rds
  have R2 : Reads (SA.rds 1 (.slice b ys.length cb) ys.length (ys.map v8)) 1 (.slice b ys.length cb) ys.length (ys.map v8) := Reads.rds
  refine Fn.of (N := 66) Try.func4 rfl rfl ?_
  intro Xh
  refine TC.know (reads_cap R1 (by with_reducible (repeat first | exact In.here | apply In.there))) ?_
  rintro ⟨hm1, hc1, -, hn1⟩
  refine TC.know (reads_cap R2 (by with_reducible (repeat first | exact In.here | apply In.there))) ?_
  rintro ⟨hm2, hc2, -, hn2⟩
  simp only [maxLen] at hc1 hc2
  refine TC.seq ?_
  refine TC.region ?_
  refine TL.val rfl rfl rfl (Y.assign rfl rfl) ?_
  refine TL.nil ?_
  refine TQ.next ?_
  refine TC.seq ?_
  refine TC.seq ?_
  refine TC.region ?_
  refine TL.eff rfl rfl rfl (X.call rfl Try.func8 (by kernel_rfl) rfl rfl (awake_fn _)) ?_
  rintro _ _ ⟨rfl, rfl⟩
  refine TL.val rfl rfl rfl (Y.not rfl rfl) ?_
  refine TL.nil ?_
  refine TQ.next ?_
  refine TC.cond_f rfl ?_
  refine TC.skip ?_
  refine TQ.next ?_
  refine TC.seq ?_
  refine TC.region ?_
  refine TL.val rfl rfl rfl (Y.move rfl rfl) ?_
  refine TL.val rfl rfl rfl (Y.len rfl Try.underlying22 rfl) ?_
  refine TL.val rfl rfl rfl (Y.move rfl rfl) ?_
  refine TL.val rfl rfl rfl (Y.len rfl Try.underlying22 rfl) ?_
  refine TL.val rfl rfl rfl (Y.minN rfl rfl rfl) ?_
  refine TL.val rfl rfl rfl (Y.assign rfl rfl) ?_
  refine TL.nil ?_
  have hmin1 : min xs.length ys.length ≤ xs.length := Nat.min_le_left _ _
  have hmin2 : min xs.length ys.length ≤ ys.length := Nat.min_le_right _ _
  generalize min xs.length ys.length = n at hmin1 hmin2 ⊢
  refine TQ.next ?_
  refine TC.cutF (ι := Nat × Nat × Nat) [] (fun _ => True) (fun i => [(6, some (.slice (some ⟨i.1, 0, none⟩) n n)), (7, some (.slice (some ⟨i.2.1, 0, none⟩) n n)), (8, some (.slice (some ⟨i.2.2, 0, none⟩) n n))]) (fun i => [SA.owns 5 1 (.slice (some ⟨i.1, 0, none⟩) n n) n ((List.replicate n (0 : UInt8)).map v8), SA.owns 5 1 (.slice (some ⟨i.2.1, 0, none⟩) n n) n ((List.replicate n (0 : UInt8)).map v8), SA.owns 5 1 (.slice (some ⟨i.2.2, 0, none⟩) n n) n ((List.replicate n (0 : UInt8)).map v8)]) (Ao := []) Pulls.nil ?_ ?_
  · rintro L' hL'
    simp only [List.cons_append, List.nil_append] at hL'
    subst hL'
    refine TC.draws 5 [] (by kernel_rfl) (by kernel_rfl) (fun _ _ A hA => by cases hA) ?_
    refine TA.takeP 0 rfl rfl rfl rfl (by kernel_rfl) (by kernel_rfl) (by kernel_rfl) rfl (fun _ _ _ h => h) (Y.move rfl rfl) ?_
    refine TA.takeP 2 rfl rfl rfl rfl (by kernel_rfl) (by kernel_rfl) (by kernel_rfl) rfl (fun _ _ _ h => h) (Y.move rfl rfl) ?_
    refine TA.take 4 rfl rfl rfl rfl (by kernel_rfl) (by kernel_rfl) (by kernel_rfl) rfl (by kernel_rfl) (by kernel_rfl) (fun _ _ _ h => h) (Y.move rfl rfl) ?_
    refine TA.any (rs := [1, 3, 5]) (by kernel_rfl) (by simp) ?_
    simp only [List.forall_mem_cons, List.not_mem_nil, false_implies, implies_true, and_true]
    refine ⟨?_, ?_, ?_⟩
    · skip
      refine TAo.eff rfl rfl rfl rfl (X.makeSlice rfl el22 rfl rfl (by omega) (by omega) (by simp only [maxLen]; omega)) ?_
      rintro _ _ ⟨g18, rfl, rfl⟩
      refine ⟨(Or.inr (fun w h A hA => by cases hA)), ?_⟩
      refine TA.takeP 6 rfl rfl rfl rfl (by kernel_rfl) (by kernel_rfl) (by kernel_rfl) rfl (fun _ _ _ h => h) (Y.assign rfl rfl) ?_
      refine TA.any (rs := [3, 5]) (by kernel_rfl) (by simp) ?_
      simp only [List.forall_mem_cons, List.not_mem_nil, false_implies, implies_true, and_true]
      refine ⟨?_, ?_⟩
      · skip
        refine TAo.eff rfl rfl rfl rfl (X.makeSlice rfl el22 rfl rfl (by omega) (by omega) (by simp only [maxLen]; omega)) ?_
        rintro _ _ ⟨g20, rfl, rfl⟩
        refine ⟨(Or.inr (fun w h A hA => by cases hA)), ?_⟩
        refine TA.takeP 7 rfl rfl rfl rfl (by kernel_rfl) (by kernel_rfl) (by kernel_rfl) rfl (fun _ _ _ h => h) (Y.assign rfl rfl) ?_
        refine TA.one 5 (by kernel_rfl) rfl rfl rfl rfl (X.makeSlice rfl el22 rfl rfl (by omega) (by omega) (by simp only [maxLen]; omega)) ?_
        rintro _ _ ⟨g22, rfl, rfl⟩
        refine ⟨(Or.inr (fun w h A hA => by cases hA)), ?_⟩
        refine TA.takeP 8 rfl rfl rfl rfl (by kernel_rfl) (by kernel_rfl) (by kernel_rfl) rfl (fun _ _ _ h => h) (Y.assign rfl rfl) ?_
        refine TA.done (by kernel_rfl) ?_
        simp only [made0]
        refine TQ.meetF ((g18, g20, g22)) (trivial) ⟨rfl, rfl, rfl, trivial⟩ (by (repeat first | exact Grow.refl | apply Grow.step | apply Grow.app)) ?_ ?_
        · kernel_rfl
        · simp only [List.cons_append, List.nil_append]
          exact (by (repeat first | (with_reducible exact Ent.refl) | (with_reducible exact Ent.nil) | refine Ent.cons (by first | (with_reducible (repeat first | exact Pull.here | apply Pull.there); done) | (repeat first | exact Pull.here | apply Pull.there)) ?_ | refine Ent.skip ?_))
      · skip
        refine TAo.eff rfl rfl rfl rfl (X.makeSlice rfl el22 rfl rfl (by omega) (by omega) (by simp only [maxLen]; omega)) ?_
        rintro _ _ ⟨g22, rfl, rfl⟩
        refine ⟨(Or.inr (fun w h A hA => by cases hA)), ?_⟩
        refine TA.one 3 (by kernel_rfl) rfl rfl rfl rfl (X.makeSlice rfl el22 rfl rfl (by omega) (by omega) (by simp only [maxLen]; omega)) ?_
        rintro _ _ ⟨g20, rfl, rfl⟩
        refine ⟨(Or.inr (fun w h A hA => by cases hA)), ?_⟩
        refine TA.takeP 7 rfl rfl rfl rfl (by kernel_rfl) (by kernel_rfl) (by kernel_rfl) rfl (fun _ _ _ h => h) (Y.assign rfl rfl) ?_
        refine TA.takeP 8 rfl rfl rfl rfl (by kernel_rfl) (by kernel_rfl) (by kernel_rfl) rfl (fun _ _ _ h => h) (Y.assign rfl rfl) ?_
        refine TA.done (by kernel_rfl) ?_
        simp only [made0]
        refine TQ.meetF ((g18, g20, g22)) (trivial) ⟨rfl, rfl, rfl, trivial⟩ (by (repeat first | exact Grow.refl | apply Grow.step | apply Grow.app)) ?_ ?_
        · kernel_rfl
        · simp only [List.cons_append, List.nil_append]
          exact (by (repeat first | (with_reducible exact Ent.refl) | (with_reducible exact Ent.nil) | refine Ent.cons (by first | (with_reducible (repeat first | exact Pull.here | apply Pull.there); done) | (repeat first | exact Pull.here | apply Pull.there)) ?_ | refine Ent.skip ?_))
    · skip
      refine TAo.eff rfl rfl rfl rfl (X.makeSlice rfl el22 rfl rfl (by omega) (by omega) (by simp only [maxLen]; omega)) ?_
      rintro _ _ ⟨g20, rfl, rfl⟩
      refine ⟨(Or.inr (fun w h A hA => by cases hA)), ?_⟩
      refine TA.any (rs := [1, 5]) (by kernel_rfl) (by simp) ?_
      simp only [List.forall_mem_cons, List.not_mem_nil, false_implies, implies_true, and_true]
      refine ⟨?_, ?_⟩
      · skip
        refine TAo.eff rfl rfl rfl rfl (X.makeSlice rfl el22 rfl rfl (by omega) (by omega) (by simp only [maxLen]; omega)) ?_
        rintro _ _ ⟨g18, rfl, rfl⟩
        refine ⟨(Or.inr (fun w h A hA => by cases hA)), ?_⟩
        refine TA.takeP 6 rfl rfl rfl rfl (by kernel_rfl) (by kernel_rfl) (by kernel_rfl) rfl (fun _ _ _ h => h) (Y.assign rfl rfl) ?_
        refine TA.takeP 7 rfl rfl rfl rfl (by kernel_rfl) (by kernel_rfl) (by kernel_rfl) rfl (fun _ _ _ h => h) (Y.assign rfl rfl) ?_
        refine TA.one 5 (by kernel_rfl) rfl rfl rfl rfl (X.makeSlice rfl el22 rfl rfl (by omega) (by omega) (by simp only [maxLen]; omega)) ?_
        rintro _ _ ⟨g22, rfl, rfl⟩
        refine ⟨(Or.inr (fun w h A hA => by cases hA)), ?_⟩
        refine TA.takeP 8 rfl rfl rfl rfl (by kernel_rfl) (by kernel_rfl) (by kernel_rfl) rfl (fun _ _ _ h => h) (Y.assign rfl rfl) ?_
        refine TA.done (by kernel_rfl) ?_
        simp only [made0]
        refine TQ.meetF ((g18, g20, g22)) (trivial) ⟨rfl, rfl, rfl, trivial⟩ (by (repeat first | exact Grow.refl | apply Grow.step | apply Grow.app)) ?_ ?_
        · kernel_rfl
        · simp only [List.cons_append, List.nil_append]
          exact (by (repeat first | (with_reducible exact Ent.refl) | (with_reducible exact Ent.nil) | refine Ent.cons (by first | (with_reducible (repeat first | exact Pull.here | apply Pull.there); done) | (repeat first | exact Pull.here | apply Pull.there)) ?_ | refine Ent.skip ?_))
      · skip
        refine TAo.eff rfl rfl rfl rfl (X.makeSlice rfl el22 rfl rfl (by omega) (by omega) (by simp only [maxLen]; omega)) ?_
        rintro _ _ ⟨g22, rfl, rfl⟩
        refine ⟨(Or.inr (fun w h A hA => by cases hA)), ?_⟩
        refine TA.one 1 (by kernel_rfl) rfl rfl rfl rfl (X.makeSlice rfl el22 rfl rfl (by omega) (by omega) (by simp only [maxLen]; omega)) ?_
        rintro _ _ ⟨g18, rfl, rfl⟩
        refine ⟨(Or.inr (fun w h A hA => by cases hA)), ?_⟩
        refine TA.takeP 6 rfl rfl rfl rfl (by kernel_rfl) (by kernel_rfl) (by kernel_rfl) rfl (fun _ _ _ h => h) (Y.assign rfl rfl) ?_
        refine TA.takeP 7 rfl rfl rfl rfl (by kernel_rfl) (by kernel_rfl) (by kernel_rfl) rfl (fun _ _ _ h => h) (Y.assign rfl rfl) ?_
        refine TA.takeP 8 rfl rfl rfl rfl (by kernel_rfl) (by kernel_rfl) (by kernel_rfl) rfl (fun _ _ _ h => h) (Y.assign rfl rfl) ?_
        refine TA.done (by kernel_rfl) ?_
        simp only [made0]
        refine TQ.meetF ((g18, g20, g22)) (trivial) ⟨rfl, rfl, rfl, trivial⟩ (by (repeat first | exact Grow.refl | apply Grow.step | apply Grow.app)) ?_ ?_
        · kernel_rfl
        · simp only [List.cons_append, List.nil_append]
          exact (by (repeat first | (with_reducible exact Ent.refl) | (with_reducible exact Ent.nil) | refine Ent.cons (by first | (with_reducible (repeat first | exact Pull.here | apply Pull.there); done) | (repeat first | exact Pull.here | apply Pull.there)) ?_ | refine Ent.skip ?_))
    · skip
      refine TAo.eff rfl rfl rfl rfl (X.makeSlice rfl el22 rfl rfl (by omega) (by omega) (by simp only [maxLen]; omega)) ?_
      rintro _ _ ⟨g22, rfl, rfl⟩
      refine ⟨(Or.inr (fun w h A hA => by cases hA)), ?_⟩
      refine TA.any (rs := [1, 3]) (by kernel_rfl) (by simp) ?_
      simp only [List.forall_mem_cons, List.not_mem_nil, false_implies, implies_true, and_true]
      refine ⟨?_, ?_⟩
      · skip
        refine TAo.eff rfl rfl rfl rfl (X.makeSlice rfl el22 rfl rfl (by omega) (by omega) (by simp only [maxLen]; omega)) ?_
        rintro _ _ ⟨g18, rfl, rfl⟩
        refine ⟨(Or.inr (fun w h A hA => by cases hA)), ?_⟩
        refine TA.takeP 6 rfl rfl rfl rfl (by kernel_rfl) (by kernel_rfl) (by kernel_rfl) rfl (fun _ _ _ h => h) (Y.assign rfl rfl) ?_
        refine TA.one 3 (by kernel_rfl) rfl rfl rfl rfl (X.makeSlice rfl el22 rfl rfl (by omega) (by omega) (by simp only [maxLen]; omega)) ?_
        rintro _ _ ⟨g20, rfl, rfl⟩
        refine ⟨(Or.inr (fun w h A hA => by cases hA)), ?_⟩
        refine TA.takeP 7 rfl rfl rfl rfl (by kernel_rfl) (by kernel_rfl) (by kernel_rfl) rfl (fun _ _ _ h => h) (Y.assign rfl rfl) ?_
        refine TA.takeP 8 rfl rfl rfl rfl (by kernel_rfl) (by kernel_rfl) (by kernel_rfl) rfl (fun _ _ _ h => h) (Y.assign rfl rfl) ?_
        refine TA.done (by kernel_rfl) ?_
        simp only [made0]
        refine TQ.meetF ((g18, g20, g22)) (trivial) ⟨rfl, rfl, rfl, trivial⟩ (by (repeat first | exact Grow.refl | apply Grow.step | apply Grow.app)) ?_ ?_
        · kernel_rfl
        · simp only [List.cons_append, List.nil_append]
          exact (by (repeat first | (with_reducible exact Ent.refl) | (with_reducible exact Ent.nil) | refine Ent.cons (by first | (with_reducible (repeat first | exact Pull.here | apply Pull.there); done) | (repeat first | exact Pull.here | apply Pull.there)) ?_ | refine Ent.skip ?_))
      · skip
        refine TAo.eff rfl rfl rfl rfl (X.makeSlice rfl el22 rfl rfl (by omega) (by omega) (by simp only [maxLen]; omega)) ?_
        rintro _ _ ⟨g20, rfl, rfl⟩
        refine ⟨(Or.inr (fun w h A hA => by cases hA)), ?_⟩
        refine TA.one 1 (by kernel_rfl) rfl rfl rfl rfl (X.makeSlice rfl el22 rfl rfl (by omega) (by omega) (by simp only [maxLen]; omega)) ?_
        rintro _ _ ⟨g18, rfl, rfl⟩
        refine ⟨(Or.inr (fun w h A hA => by cases hA)), ?_⟩
        refine TA.takeP 6 rfl rfl rfl rfl (by kernel_rfl) (by kernel_rfl) (by kernel_rfl) rfl (fun _ _ _ h => h) (Y.assign rfl rfl) ?_
        refine TA.takeP 7 rfl rfl rfl rfl (by kernel_rfl) (by kernel_rfl) (by kernel_rfl) rfl (fun _ _ _ h => h) (Y.assign rfl rfl) ?_
        refine TA.takeP 8 rfl rfl rfl rfl (by kernel_rfl) (by kernel_rfl) (by kernel_rfl) rfl (fun _ _ _ h => h) (Y.assign rfl rfl) ?_
        refine TA.done (by kernel_rfl) ?_
        simp only [made0]
        refine TQ.meetF ((g18, g20, g22)) (trivial) ⟨rfl, rfl, rfl, trivial⟩ (by (repeat first | exact Grow.refl | apply Grow.step | apply Grow.app)) ?_ ?_
        · kernel_rfl
        · simp only [List.cons_append, List.nil_append]
          exact (by (repeat first | (with_reducible exact Ent.refl) | (with_reducible exact Ent.nil) | refine Ent.cons (by first | (with_reducible (repeat first | exact Pull.here | apply Pull.there); done) | (repeat first | exact Pull.here | apply Pull.there)) ?_ | refine Ent.skip ?_))
  · rintro ⟨gx, gy, gz⟩ - F' L' rfl hL'
    simp only [List.cons_append, List.nil_append] at hL'
    subst hL'
    refine TC.seq ?_
    refine TC.seq ?_
    refine TC.region ?_
    refine TL.val rfl rfl rfl (Y.move rfl rfl) ?_
    refine TL.val rfl rfl rfl (Y.move rfl rfl) ?_
    refine TL.nil ?_
    refine TQ.next ?_
    refine TC.block ?_
    have e1 := cp_0 xs n
    refine TC.loopF (ι := Nat) [] (fun k => k ≤ n) (fun k => [(24, some (vN k))]) (fun k => [SA.owns 5 1 (.slice (some ⟨gx, 0, none⟩) n n) n ((cp xs n k).map v8), SA.owns 5 1 (.slice (some ⟨gy, 0, none⟩) n n) n ((cp ys n k).map v8), SA.owns 5 1 (.slice (some ⟨gz, 0, none⟩) n n) n ((zw xs ys n k).map v8)]) (fun k => n - k) (0) (by omega) ⟨rfl, trivial⟩ (by rw [← cp_0, ← cp_0, ← zw_0]; exact Pulls.cons (by first | (with_reducible (repeat first | exact Pull.here | apply Pull.there); done) | (repeat first | exact Pull.here | apply Pull.there)) (Pulls.cons (by first | (with_reducible (repeat first | exact Pull.here | apply Pull.there); done) | (repeat first | exact Pull.here | apply Pull.there)) (Pulls.cons (by first | (with_reducible (repeat first | exact Pull.here | apply Pull.there); done) | (repeat first | exact Pull.here | apply Pull.there)) Pulls.nil))) ?_
    rintro k hk F' L' rfl hL'
    simp only [List.cons_append, List.nil_append] at hL'
    subst hL'
    have l1 := cp_len xs n k; have l2 := cp_len ys n k; have l3 := zw_len xs ys n k
    refine TC.seq ?_
    refine TC.region ?_
    refine TL.val rfl rfl rfl (Y.bin rfl rfl rfl (br_ltN)) ?_
    refine TL.nil ?_
    refine TQ.next ?_
    refine TC.seq ?_
    refine TC.cond rfl (fun c1 => ?_) (fun c1 => ?_)
    · try simp only [decide_eq_true_eq, decide_eq_false_iff_not, Bool.not_eq_true', Bool.not_eq_false', Bool.and_eq_true, Bool.or_eq_true, Nat.not_lt, Nat.not_le, beq_iff_eq, bne_iff_ne] at c1
      obtain ⟨pa, rfl⟩ : ∃ p, a = some p := by cases a with | none => (have := hn1 rfl; omega) | some p => exact ⟨p, rfl⟩
      obtain ⟨pb, rfl⟩ : ∃ p, b = some p := by cases b with | none => (have := hn2 rfl; omega) | some p => exact ⟨p, rfl⟩
      refine TC.skip ?_
      refine TQ.next ?_
      refine TC.seq ?_
      refine TC.block ?_
      refine TC.seq ?_
      refine TC.region ?_
      refine TL.val rfl rfl rfl (Y.move rfl rfl) ?_
      refine TL.val rfl rfl rfl (Y.assign rfl rfl) ?_
      refine TL.nil ?_
      refine TQ.next ?_
      refine TC.seq ?_
      refine TC.draws 13 _ (by kernel_rfl) (by kernel_rfl) (fun _ h => h) ?_
      refine TA.take 0 rfl rfl rfl rfl (by kernel_rfl) (by kernel_rfl) (by kernel_rfl) rfl (by kernel_rfl) (by kernel_rfl) (fun _ _ _ h => h) (Y.move rfl rfl) ?_
      refine TA.take 1 rfl rfl rfl rfl (by kernel_rfl) (by kernel_rfl) (by kernel_rfl) rfl (by kernel_rfl) (by kernel_rfl) (fun _ _ _ h => h) (Y.move rfl rfl) ?_
      refine TA.takeP 2 rfl rfl rfl rfl (by kernel_rfl) (by kernel_rfl) (by kernel_rfl) rfl (fun _ _ _ h => h) (Y.move rfl rfl) ?_
      refine TA.takeP 3 rfl rfl rfl rfl (by kernel_rfl) (by kernel_rfl) (by kernel_rfl) rfl (fun _ _ _ h => h) (Y.move rfl rfl) ?_
      refine TA.take 4 rfl rfl rfl rfl (by kernel_rfl) (by kernel_rfl) (by kernel_rfl) rfl (by kernel_rfl) (by kernel_rfl) (fun _ _ _ h => h) (Y.move rfl rfl) ?_
      refine TA.take 5 rfl rfl rfl rfl (by kernel_rfl) (by kernel_rfl) (by kernel_rfl) rfl (by kernel_rfl) (by kernel_rfl) (fun _ _ _ h => h) (Y.move rfl rfl) ?_
      refine TA.take 6 rfl rfl rfl rfl (by kernel_rfl) (by kernel_rfl) (by kernel_rfl) rfl (by kernel_rfl) (by kernel_rfl) (fun _ _ _ h => h) (by first | exact Y.indexSlB rfl sl22 rfl rfl (by omega) (by ((try simp only [Nat.zero_add, Nat.add_zero, Nat.mul_one, Nat.one_mul, Nat.mul_zero, Nat.zero_mul]) <;> rfl)) | exact Y.indexSl rfl sl22 rfl rfl (by omega) (by ((try simp only [Nat.zero_add, Nat.add_zero, Nat.mul_one, Nat.one_mul, Nat.mul_zero, Nat.zero_mul]) <;> rfl))) ?_
      refine TA.take 7 rfl rfl rfl rfl (by kernel_rfl) (by kernel_rfl) (by kernel_rfl) rfl (by kernel_rfl) (by kernel_rfl) (fun _ _ _ h => h) (Y.load rfl sc5 rfl (by first | exact Cel.blk (by with_reducible (repeat first | exact In.here | apply In.there)) (by first | exact getM (d := (0 : UInt8)) (by ((try simp only [List.length_set, List.length_map, List.length_append, List.length_replicate, List.size_toArray]); omega)) | rfl) | exact Cel.rblk (by with_reducible (repeat first | exact In.here | apply In.there)) (by first | exact getM (d := (0 : UInt8)) (by ((try simp only [List.length_set, List.length_map, List.length_append, List.length_replicate, List.size_toArray]); omega)) | rfl) | exact Cel.rds (by with_reducible (repeat first | exact In.here | apply In.there)) (getML (d := (0 : UInt8)) (by ((try simp only [List.length_set, List.length_map, List.length_append, List.length_replicate, List.size_toArray]); omega))) | exact Cel.rdsB (by with_reducible (repeat first | exact In.here | apply In.there)) (getML (d := (0 : UInt8)) (by ((try simp only [List.length_set, List.length_map, List.length_append, List.length_replicate, List.size_toArray]); omega))) | exact Cel.owns (by with_reducible (repeat first | exact In.here | apply In.there)) (getML (d := (0 : UInt8)) (by ((try simp only [List.length_set, List.length_map, List.length_append, List.length_replicate, List.size_toArray]); omega))) | exact Cel.reads (by assumption) (by with_reducible (repeat first | exact In.here | apply In.there)) (getML (d := (0 : UInt8)) (by ((try simp only [List.length_set, List.length_map, List.length_append, List.length_replicate, List.size_toArray]); omega))))) ?_
      refine TA.takeP 8 rfl rfl rfl rfl (by kernel_rfl) (by kernel_rfl) (by kernel_rfl) rfl (fun _ _ _ h => h) (Y.move rfl rfl) ?_
      refine TA.takeP 9 rfl rfl rfl rfl (by kernel_rfl) (by kernel_rfl) (by kernel_rfl) rfl (fun _ _ _ h => h) (Y.move rfl rfl) ?_
      refine TA.takeP 10 rfl rfl rfl rfl (by kernel_rfl) (by kernel_rfl) (by kernel_rfl) rfl (fun _ _ _ h => h) (by first | exact Y.indexSlB rfl sl22 rfl rfl (by omega) (by ((try simp only [Nat.zero_add, Nat.add_zero, Nat.mul_one, Nat.one_mul, Nat.mul_zero, Nat.zero_mul]) <;> rfl)) | exact Y.indexSl rfl sl22 rfl rfl (by omega) (by ((try simp only [Nat.zero_add, Nat.add_zero, Nat.mul_one, Nat.one_mul, Nat.mul_zero, Nat.zero_mul]) <;> rfl))) ?_
      refine TA.take 11 rfl rfl rfl rfl (by kernel_rfl) (by kernel_rfl) (by kernel_rfl) rfl (by kernel_rfl) (by kernel_rfl) (fun _ _ _ h => h) (Y.load rfl sc5 rfl (by first | exact Cel.blk (by with_reducible (repeat first | exact In.here | apply In.there)) (by first | exact getM (d := (0 : UInt8)) (by ((try simp only [List.length_set, List.length_map, List.length_append, List.length_replicate, List.size_toArray]); omega)) | rfl) | exact Cel.rblk (by with_reducible (repeat first | exact In.here | apply In.there)) (by first | exact getM (d := (0 : UInt8)) (by ((try simp only [List.length_set, List.length_map, List.length_append, List.length_replicate, List.size_toArray]); omega)) | rfl) | exact Cel.rds (by with_reducible (repeat first | exact In.here | apply In.there)) (getML (d := (0 : UInt8)) (by ((try simp only [List.length_set, List.length_map, List.length_append, List.length_replicate, List.size_toArray]); omega))) | exact Cel.rdsB (by with_reducible (repeat first | exact In.here | apply In.there)) (getML (d := (0 : UInt8)) (by ((try simp only [List.length_set, List.length_map, List.length_append, List.length_replicate, List.size_toArray]); omega))) | exact Cel.owns (by with_reducible (repeat first | exact In.here | apply In.there)) (getML (d := (0 : UInt8)) (by ((try simp only [List.length_set, List.length_map, List.length_append, List.length_replicate, List.size_toArray]); omega))) | exact Cel.reads (by assumption) (by with_reducible (repeat first | exact In.here | apply In.there)) (getML (d := (0 : UInt8)) (by ((try simp only [List.length_set, List.length_map, List.length_append, List.length_replicate, List.size_toArray]); omega))))) ?_
      refine TA.take 12 rfl rfl rfl rfl (by kernel_rfl) (by kernel_rfl) (by kernel_rfl) rfl (by kernel_rfl) (by kernel_rfl) (fun _ _ _ h => h) (by first | exact Y.indexSlB rfl sl22 rfl rfl (by omega) (by ((try simp only [Nat.zero_add, Nat.add_zero, Nat.mul_one, Nat.one_mul, Nat.mul_zero, Nat.zero_mul]) <;> rfl)) | exact Y.indexSl rfl sl22 rfl rfl (by omega) (by ((try simp only [Nat.zero_add, Nat.add_zero, Nat.mul_one, Nat.one_mul, Nat.mul_zero, Nat.zero_mul]) <;> rfl))) ?_
      refine TA.one0 13 (by kernel_rfl) rfl rfl rfl (by first | exact X.store rfl sz5 rfl rfl rfl (by first | (with_reducible (repeat first | exact Pull.here | apply Pull.there); done) | (repeat first | exact Pull.here | apply Pull.there)) (by ((try simp only [List.length_set, List.length_map, List.length_append, List.length_replicate, List.size_toArray]); omega)) (by first | exact setM | rfl) | exact X.storeOwn rfl sz5 rfl (Nat.zero_add _).symm rfl rfl (by first | (with_reducible (repeat first | exact Pull.here | apply Pull.there); done) | (repeat first | exact Pull.here | apply Pull.there)) (by ((try simp only [List.length_set, List.length_map, List.length_append, List.length_replicate, List.size_toArray]); omega)) (by first | exact setML | rfl)) ?_
      rintro _ _ rfl
      refine ⟨(Or.inl (by kernel_rfl)), ?_⟩
      refine TA.takeP 14 rfl rfl rfl rfl (by kernel_rfl) (by kernel_rfl) (by kernel_rfl) rfl (fun _ _ _ h => h) (by first | exact Y.indexSlB rfl sl22 rfl rfl (by omega) (by ((try simp only [Nat.zero_add, Nat.add_zero, Nat.mul_one, Nat.one_mul, Nat.mul_zero, Nat.zero_mul]) <;> rfl)) | exact Y.indexSl rfl sl22 rfl rfl (by omega) (by ((try simp only [Nat.zero_add, Nat.add_zero, Nat.mul_one, Nat.one_mul, Nat.mul_zero, Nat.zero_mul]) <;> rfl))) ?_
      refine TA.one0 15 (by kernel_rfl) rfl rfl rfl (by first | exact X.store rfl sz5 rfl rfl rfl (by first | (with_reducible (repeat first | exact Pull.here | apply Pull.there); done) | (repeat first | exact Pull.here | apply Pull.there)) (by ((try simp only [List.length_set, List.length_map, List.length_append, List.length_replicate, List.size_toArray]); omega)) (by first | exact setM | rfl) | exact X.storeOwn rfl sz5 rfl (Nat.zero_add _).symm rfl rfl (by first | (with_reducible (repeat first | exact Pull.here | apply Pull.there); done) | (repeat first | exact Pull.here | apply Pull.there)) (by ((try simp only [List.length_set, List.length_map, List.length_append, List.length_replicate, List.size_toArray]); omega)) (by first | exact setML | rfl)) ?_
      rintro _ _ rfl
      refine ⟨(Or.inl (by kernel_rfl)), ?_⟩
      refine TA.done (by kernel_rfl) ?_
      refine TQ.next ?_
      refine TC.draws 12 _ (by kernel_rfl) (by kernel_rfl) (fun _ h => h) ?_
      refine TA.take 0 rfl rfl rfl rfl (by kernel_rfl) (by kernel_rfl) (by kernel_rfl) rfl (by kernel_rfl) (by kernel_rfl) (fun _ _ _ h => h) (Y.move rfl rfl) ?_
      refine TA.take 1 rfl rfl rfl rfl (by kernel_rfl) (by kernel_rfl) (by kernel_rfl) rfl (by kernel_rfl) (by kernel_rfl) (fun _ _ _ h => h) (Y.move rfl rfl) ?_
      refine TA.take 2 rfl rfl rfl rfl (by kernel_rfl) (by kernel_rfl) (by kernel_rfl) rfl (by kernel_rfl) (by kernel_rfl) (fun _ _ _ h => h) (Y.move rfl rfl) ?_
      refine TA.take 3 rfl rfl rfl rfl (by kernel_rfl) (by kernel_rfl) (by kernel_rfl) rfl (by kernel_rfl) (by kernel_rfl) (fun _ _ _ h => h) (Y.move rfl rfl) ?_
      refine TA.take 4 rfl rfl rfl rfl (by kernel_rfl) (by kernel_rfl) (by kernel_rfl) rfl (by kernel_rfl) (by kernel_rfl) (fun _ _ _ h => h) (by first | exact Y.indexSlB rfl sl22 rfl rfl (by omega) (by ((try simp only [Nat.zero_add, Nat.add_zero, Nat.mul_one, Nat.one_mul, Nat.mul_zero, Nat.zero_mul]) <;> rfl)) | exact Y.indexSl rfl sl22 rfl rfl (by omega) (by ((try simp only [Nat.zero_add, Nat.add_zero, Nat.mul_one, Nat.one_mul, Nat.mul_zero, Nat.zero_mul]) <;> rfl))) ?_
      refine TA.take 5 rfl rfl rfl rfl (by kernel_rfl) (by kernel_rfl) (by kernel_rfl) rfl (by kernel_rfl) (by kernel_rfl) (fun _ _ _ h => h) (Y.load rfl sc5 rfl (by first | exact Cel.blk (by with_reducible (repeat first | exact In.here | apply In.there)) (by first | exact getM (d := (0 : UInt8)) (by ((try simp only [List.length_set, List.length_map, List.length_append, List.length_replicate, List.size_toArray]); omega)) | rfl) | exact Cel.rblk (by with_reducible (repeat first | exact In.here | apply In.there)) (by first | exact getM (d := (0 : UInt8)) (by ((try simp only [List.length_set, List.length_map, List.length_append, List.length_replicate, List.size_toArray]); omega)) | rfl) | exact Cel.rds (by with_reducible (repeat first | exact In.here | apply In.there)) (getML (d := (0 : UInt8)) (by ((try simp only [List.length_set, List.length_map, List.length_append, List.length_replicate, List.size_toArray]); omega))) | exact Cel.rdsB (by with_reducible (repeat first | exact In.here | apply In.there)) (getML (d := (0 : UInt8)) (by ((try simp only [List.length_set, List.length_map, List.length_append, List.length_replicate, List.size_toArray]); omega))) | exact Cel.owns (by with_reducible (repeat first | exact In.here | apply In.there)) (getML (d := (0 : UInt8)) (by ((try simp only [List.length_set, List.length_map, List.length_append, List.length_replicate, List.size_toArray]); omega))) | exact Cel.reads (by assumption) (by with_reducible (repeat first | exact In.here | apply In.there)) (getML (d := (0 : UInt8)) (by ((try simp only [List.length_set, List.length_map, List.length_append, List.length_replicate, List.size_toArray]); omega))))) ?_
      refine TA.take 6 rfl rfl rfl rfl (by kernel_rfl) (by kernel_rfl) (by kernel_rfl) rfl (by kernel_rfl) (by kernel_rfl) (fun _ _ _ h => h) (Y.move rfl rfl) ?_
      refine TA.take 7 rfl rfl rfl rfl (by kernel_rfl) (by kernel_rfl) (by kernel_rfl) rfl (by kernel_rfl) (by kernel_rfl) (fun _ _ _ h => h) (Y.move rfl rfl) ?_
      refine TA.take 8 rfl rfl rfl rfl (by kernel_rfl) (by kernel_rfl) (by kernel_rfl) rfl (by kernel_rfl) (by kernel_rfl) (fun _ _ _ h => h) (by first | exact Y.indexSlB rfl sl22 rfl rfl (by omega) (by ((try simp only [Nat.zero_add, Nat.add_zero, Nat.mul_one, Nat.one_mul, Nat.mul_zero, Nat.zero_mul]) <;> rfl)) | exact Y.indexSl rfl sl22 rfl rfl (by omega) (by ((try simp only [Nat.zero_add, Nat.add_zero, Nat.mul_one, Nat.one_mul, Nat.mul_zero, Nat.zero_mul]) <;> rfl))) ?_
      refine TA.take 9 rfl rfl rfl rfl (by kernel_rfl) (by kernel_rfl) (by kernel_rfl) rfl (by kernel_rfl) (by kernel_rfl) (fun _ _ _ h => h) (Y.load rfl sc5 rfl (by first | exact Cel.blk (by with_reducible (repeat first | exact In.here | apply In.there)) (by first | exact getM (d := (0 : UInt8)) (by ((try simp only [List.length_set, List.length_map, List.length_append, List.length_replicate, List.size_toArray]); omega)) | rfl) | exact Cel.rblk (by with_reducible (repeat first | exact In.here | apply In.there)) (by first | exact getM (d := (0 : UInt8)) (by ((try simp only [List.length_set, List.length_map, List.length_append, List.length_replicate, List.size_toArray]); omega)) | rfl) | exact Cel.rds (by with_reducible (repeat first | exact In.here | apply In.there)) (getML (d := (0 : UInt8)) (by ((try simp only [List.length_set, List.length_map, List.length_append, List.length_replicate, List.size_toArray]); omega))) | exact Cel.rdsB (by with_reducible (repeat first | exact In.here | apply In.there)) (getML (d := (0 : UInt8)) (by ((try simp only [List.length_set, List.length_map, List.length_append, List.length_replicate, List.size_toArray]); omega))) | exact Cel.owns (by with_reducible (repeat first | exact In.here | apply In.there)) (getML (d := (0 : UInt8)) (by ((try simp only [List.length_set, List.length_map, List.length_append, List.length_replicate, List.size_toArray]); omega))) | exact Cel.reads (by assumption) (by with_reducible (repeat first | exact In.here | apply In.there)) (getML (d := (0 : UInt8)) (by ((try simp only [List.length_set, List.length_map, List.length_append, List.length_replicate, List.size_toArray]); omega))))) ?_
      refine TA.take 10 rfl rfl rfl rfl (by kernel_rfl) (by kernel_rfl) (by kernel_rfl) rfl (by kernel_rfl) (by kernel_rfl) (fun _ _ _ h => h) (Y.bin rfl rfl rfl (br_xor8)) ?_
      refine TA.take 11 rfl rfl rfl rfl (by kernel_rfl) (by kernel_rfl) (by kernel_rfl) rfl (by kernel_rfl) (by kernel_rfl) (fun _ _ _ h => h) (by first | exact Y.indexSlB rfl sl22 rfl rfl (by omega) (by ((try simp only [Nat.zero_add, Nat.add_zero, Nat.mul_one, Nat.one_mul, Nat.mul_zero, Nat.zero_mul]) <;> rfl)) | exact Y.indexSl rfl sl22 rfl rfl (by omega) (by ((try simp only [Nat.zero_add, Nat.add_zero, Nat.mul_one, Nat.one_mul, Nat.mul_zero, Nat.zero_mul]) <;> rfl))) ?_
      refine TA.one0 12 (by kernel_rfl) rfl rfl rfl (by first | exact X.store rfl sz5 rfl rfl rfl (by first | (with_reducible (repeat first | exact Pull.here | apply Pull.there); done) | (repeat first | exact Pull.here | apply Pull.there)) (by ((try simp only [List.length_set, List.length_map, List.length_append, List.length_replicate, List.size_toArray]); omega)) (by first | exact setM | rfl) | exact X.storeOwn rfl sz5 rfl (Nat.zero_add _).symm rfl rfl (by first | (with_reducible (repeat first | exact Pull.here | apply Pull.there); done) | (repeat first | exact Pull.here | apply Pull.there)) (by ((try simp only [List.length_set, List.length_map, List.length_append, List.length_replicate, List.size_toArray]); omega)) (by first | exact setML | rfl)) ?_
      rintro _ _ rfl
      refine ⟨(Or.inl (by kernel_rfl)), ?_⟩
      refine TA.done (by kernel_rfl) ?_
      refine TQ.block_normal ?_
      refine TQ.next ?_
      refine TC.region ?_
      refine TL.val rfl rfl rfl (Y.bin rfl rfl rfl (br_addN (n := 1) (by omega))) ?_
      refine TL.val rfl rfl rfl (Y.move rfl rfl) ?_
      refine TL.nil ?_
      rw [cp_s, cp_s, zw_s]
      refine TQ.loopF (k + 1) (by omega) (by omega) ⟨rfl, trivial⟩ (by (repeat first | exact Grow.refl | apply Grow.step | apply Grow.app)) ?_ ?_ ?_
      · kernel_rfl
      · rfl
      · simp only [List.cons_append, List.nil_append]
        exact (by (repeat first | (with_reducible exact Ent.refl) | (with_reducible exact Ent.nil) | refine Ent.cons (by first | (with_reducible (repeat first | exact Pull.here | apply Pull.there); done) | (repeat first | exact Pull.here | apply Pull.there)) ?_ | refine Ent.skip ?_))
    · try simp only [decide_eq_true_eq, decide_eq_false_iff_not, Bool.not_eq_true', Bool.not_eq_false', Bool.and_eq_true, Bool.or_eq_true, Nat.not_lt, Nat.not_le, beq_iff_eq, bne_iff_ne] at c1
      refine TC.exit ?_
      refine TQ.then_exit ?_
      refine TQ.then_exit ?_
      refine TQ.block_exit ?_
      refine TQ.next ?_
      refine TC.seq ?_
      obtain rfl : k = n := by omega
      refine TC.draws 9 [] (by kernel_rfl) (by kernel_rfl) (fun _ _ A hA => by cases hA) ?_
      refine TA.takeP 0 rfl rfl rfl rfl (by kernel_rfl) (by kernel_rfl) (by kernel_rfl) rfl (fun _ _ _ h => h) (Y.move rfl rfl) ?_
      refine TA.takeP 2 rfl rfl rfl rfl (by kernel_rfl) (by kernel_rfl) (by kernel_rfl) rfl (fun _ _ _ h => h) (Y.move rfl rfl) ?_
      refine TA.takeP 4 rfl rfl rfl rfl (by kernel_rfl) (by kernel_rfl) (by kernel_rfl) rfl (fun _ _ _ h => h) (Y.move rfl rfl) ?_
      refine TA.takeP 7 rfl rfl rfl rfl (by kernel_rfl) (by kernel_rfl) (by kernel_rfl) rfl (fun _ _ _ h => h) (Y.move rfl rfl) ?_
      refine TA.any (rs := [1, 8]) (by kernel_rfl) (by simp) ?_
      simp only [List.forall_mem_cons, List.not_mem_nil, false_implies, implies_true, and_true]
      refine ⟨?_, ?_⟩
      · skip
        refine TAo.eff rfl rfl rfl rfl (X.call rfl Try.func11 (by kernel_rfl) rfl rfl (Fn.pre (crc_fn (SA.owns 5 1 (.slice (some ⟨gz, 0, none⟩) k k) k ((zw xs ys k k).map v8)) _ k k _ Reads.owns (zw_len _ _ _ _) _) (Ent.cons (by first | (with_reducible (repeat first | exact Pull.here | apply Pull.there); done) | (repeat first | exact Pull.here | apply Pull.there)) Ent.refl))) ?_
        rintro _ _ ⟨rfl, rfl⟩
        refine ⟨(Or.inr (fun w h A hA => by cases hA)), ?_⟩
        refine TA.any (rs := [3, 8]) (by kernel_rfl) (by simp) ?_
        simp only [List.forall_mem_cons, List.not_mem_nil, false_implies, implies_true, and_true]
        refine ⟨?_, ?_⟩
        · skip
          refine TAo.eff rfl rfl rfl rfl (X.call rfl Try.func11 (by kernel_rfl) rfl rfl (Fn.pre (crc_fn (SA.owns 5 1 (.slice (some ⟨gx, 0, none⟩) k k) k ((cp xs k k).map v8)) _ k k _ Reads.owns (cp_len _ _ _) _) (Ent.cons (by first | (with_reducible (repeat first | exact Pull.here | apply Pull.there); done) | (repeat first | exact Pull.here | apply Pull.there)) Ent.refl))) ?_
          rintro _ _ ⟨rfl, rfl⟩
          refine ⟨(Or.inr (fun w h A hA => by cases hA)), ?_⟩
          refine TA.any (rs := [5, 8]) (by kernel_rfl) (by simp) ?_
          simp only [List.forall_mem_cons, List.not_mem_nil, false_implies, implies_true, and_true]
          refine ⟨?_, ?_⟩
          · skip
            refine TAo.eff rfl rfl rfl rfl (X.call rfl Try.func11 (by kernel_rfl) rfl rfl (Fn.pre (crc_fn (SA.owns 5 1 (.slice (some ⟨gy, 0, none⟩) k k) k ((cp ys k k).map v8)) _ k k _ Reads.owns (cp_len _ _ _) _) (Ent.cons (by first | (with_reducible (repeat first | exact Pull.here | apply Pull.there); done) | (repeat first | exact Pull.here | apply Pull.there)) Ent.refl))) ?_
            rintro _ _ ⟨rfl, rfl⟩
            refine ⟨(Or.inr (fun w h A hA => by cases hA)), ?_⟩
            refine TA.takeP 6 rfl rfl rfl rfl (by kernel_rfl) (by kernel_rfl) (by kernel_rfl) rfl (fun _ _ _ h => h) (Y.bin rfl rfl rfl (br_xor32)) ?_
            refine TA.one 8 (by kernel_rfl) rfl rfl rfl rfl (X.makeSlice rfl el22 rfl rfl (by omega) (by omega) (by simp only [maxLen]; omega)) ?_
            rintro _ _ ⟨g62, rfl, rfl⟩
            refine ⟨(Or.inr (fun w h A hA => by cases hA)), ?_⟩
            refine TA.one 9 (by kernel_rfl) rfl rfl rfl rfl (X.call rfl Try.func11 (by kernel_rfl) rfl rfl (Fn.pre (crc_fn (SA.owns 5 1 (.slice (some ⟨g62, 0, none⟩) k k) k ((List.replicate k (0 : UInt8)).map v8)) _ k k _ Reads.owns (by simp) _) (Ent.cons (by rw [← made0]; exact (by first | (with_reducible (repeat first | exact Pull.here | apply Pull.there); done) | (repeat first | exact Pull.here | apply Pull.there))) Ent.refl))) ?_
            rintro _ _ ⟨rfl, rfl⟩
            refine ⟨(Or.inr (fun w h A hA => by cases hA)), ?_⟩
            refine TA.takeP 10 rfl rfl rfl rfl (by kernel_rfl) (by kernel_rfl) (by kernel_rfl) rfl (fun _ _ _ h => h) (Y.bin rfl rfl rfl (br_xor32)) ?_
            refine TA.takeP 11 rfl rfl rfl rfl (by kernel_rfl) (by kernel_rfl) (by kernel_rfl) rfl (fun _ _ _ h => h) (Y.bin rfl rfl rfl (br_eq32)) ?_
            refine TA.takeP 12 rfl rfl rfl rfl (by kernel_rfl) (by kernel_rfl) (by kernel_rfl) rfl (fun _ _ _ h => h) (Y.assign rfl rfl) ?_
            refine TA.done (by kernel_rfl) ?_
            refine TQ.next ?_
            refine TC.ret ?_
            refine TQ.retE (res1 rfl rfl) (⟨by rw [crc_xor, beq_self_eq_true], rfl⟩) ?_
            exact (by (repeat first | (with_reducible exact Ent.refl) | (with_reducible exact Ent.nil) | refine Ent.cons (by first | (with_reducible (repeat first | exact Pull.here | apply Pull.there); done) | (repeat first | exact Pull.here | apply Pull.there)) ?_ | refine Ent.skip ?_))
          · skip
            refine TAo.eff rfl rfl rfl rfl (X.makeSlice rfl el22 rfl rfl (by omega) (by omega) (by simp only [maxLen]; omega)) ?_
            rintro _ _ ⟨g62, rfl, rfl⟩
            refine ⟨(Or.inr (fun w h A hA => by cases hA)), ?_⟩
            refine TA.one 5 (by kernel_rfl) rfl rfl rfl rfl (X.call rfl Try.func11 (by kernel_rfl) rfl rfl (Fn.pre (crc_fn (SA.owns 5 1 (.slice (some ⟨gy, 0, none⟩) k k) k ((cp ys k k).map v8)) _ k k _ Reads.owns (cp_len _ _ _) _) (Ent.cons (by first | (with_reducible (repeat first | exact Pull.here | apply Pull.there); done) | (repeat first | exact Pull.here | apply Pull.there)) Ent.refl))) ?_
            rintro _ _ ⟨rfl, rfl⟩
            refine ⟨(Or.inr (fun w h A hA => by cases hA)), ?_⟩
            refine TA.takeP 6 rfl rfl rfl rfl (by kernel_rfl) (by kernel_rfl) (by kernel_rfl) rfl (fun _ _ _ h => h) (Y.bin rfl rfl rfl (br_xor32)) ?_
            refine TA.one 9 (by kernel_rfl) rfl rfl rfl rfl (X.call rfl Try.func11 (by kernel_rfl) rfl rfl (Fn.pre (crc_fn (SA.owns 5 1 (.slice (some ⟨g62, 0, none⟩) k k) k ((List.replicate k (0 : UInt8)).map v8)) _ k k _ Reads.owns (by simp) _) (Ent.cons (by rw [← made0]; exact (by first | (with_reducible (repeat first | exact Pull.here | apply Pull.there); done) | (repeat first | exact Pull.here | apply Pull.there))) Ent.refl))) ?_
            rintro _ _ ⟨rfl, rfl⟩
            refine ⟨(Or.inr (fun w h A hA => by cases hA)), ?_⟩
            refine TA.takeP 10 rfl rfl rfl rfl (by kernel_rfl) (by kernel_rfl) (by kernel_rfl) rfl (fun _ _ _ h => h) (Y.bin rfl rfl rfl (br_xor32)) ?_
            refine TA.takeP 11 rfl rfl rfl rfl (by kernel_rfl) (by kernel_rfl) (by kernel_rfl) rfl (fun _ _ _ h => h) (Y.bin rfl rfl rfl (br_eq32)) ?_
            refine TA.takeP 12 rfl rfl rfl rfl (by kernel_rfl) (by kernel_rfl) (by kernel_rfl) rfl (fun _ _ _ h => h) (Y.assign rfl rfl) ?_
            refine TA.done (by kernel_rfl) ?_
            refine TQ.next ?_
            refine TC.ret ?_
            refine TQ.retE (res1 rfl rfl) (⟨by rw [crc_xor, beq_self_eq_true], rfl⟩) ?_
            exact (by (repeat first | (with_reducible exact Ent.refl) | (with_reducible exact Ent.nil) | refine Ent.cons (by first | (with_reducible (repeat first | exact Pull.here | apply Pull.there); done) | (repeat first | exact Pull.here | apply Pull.there)) ?_ | refine Ent.skip ?_))
        · skip
          refine TAo.eff rfl rfl rfl rfl (X.makeSlice rfl el22 rfl rfl (by omega) (by omega) (by simp only [maxLen]; omega)) ?_
          rintro _ _ ⟨g62, rfl, rfl⟩
          refine ⟨(Or.inr (fun w h A hA => by cases hA)), ?_⟩
          refine TA.one 3 (by kernel_rfl) rfl rfl rfl rfl (X.call rfl Try.func11 (by kernel_rfl) rfl rfl (Fn.pre (crc_fn (SA.owns 5 1 (.slice (some ⟨gx, 0, none⟩) k k) k ((cp xs k k).map v8)) _ k k _ Reads.owns (cp_len _ _ _) _) (Ent.cons (by first | (with_reducible (repeat first | exact Pull.here | apply Pull.there); done) | (repeat first | exact Pull.here | apply Pull.there)) Ent.refl))) ?_
          rintro _ _ ⟨rfl, rfl⟩
          refine ⟨(Or.inr (fun w h A hA => by cases hA)), ?_⟩
          refine TA.one 5 (by kernel_rfl) rfl rfl rfl rfl (X.call rfl Try.func11 (by kernel_rfl) rfl rfl (Fn.pre (crc_fn (SA.owns 5 1 (.slice (some ⟨gy, 0, none⟩) k k) k ((cp ys k k).map v8)) _ k k _ Reads.owns (cp_len _ _ _) _) (Ent.cons (by first | (with_reducible (repeat first | exact Pull.here | apply Pull.there); done) | (repeat first | exact Pull.here | apply Pull.there)) Ent.refl))) ?_
          rintro _ _ ⟨rfl, rfl⟩
          refine ⟨(Or.inr (fun w h A hA => by cases hA)), ?_⟩
          refine TA.takeP 6 rfl rfl rfl rfl (by kernel_rfl) (by kernel_rfl) (by kernel_rfl) rfl (fun _ _ _ h => h) (Y.bin rfl rfl rfl (br_xor32)) ?_
          refine TA.one 9 (by kernel_rfl) rfl rfl rfl rfl (X.call rfl Try.func11 (by kernel_rfl) rfl rfl (Fn.pre (crc_fn (SA.owns 5 1 (.slice (some ⟨g62, 0, none⟩) k k) k ((List.replicate k (0 : UInt8)).map v8)) _ k k _ Reads.owns (by simp) _) (Ent.cons (by rw [← made0]; exact (by first | (with_reducible (repeat first | exact Pull.here | apply Pull.there); done) | (repeat first | exact Pull.here | apply Pull.there))) Ent.refl))) ?_
          rintro _ _ ⟨rfl, rfl⟩
          refine ⟨(Or.inr (fun w h A hA => by cases hA)), ?_⟩
          refine TA.takeP 10 rfl rfl rfl rfl (by kernel_rfl) (by kernel_rfl) (by kernel_rfl) rfl (fun _ _ _ h => h) (Y.bin rfl rfl rfl (br_xor32)) ?_
          refine TA.takeP 11 rfl rfl rfl rfl (by kernel_rfl) (by kernel_rfl) (by kernel_rfl) rfl (fun _ _ _ h => h) (Y.bin rfl rfl rfl (br_eq32)) ?_
          refine TA.takeP 12 rfl rfl rfl rfl (by kernel_rfl) (by kernel_rfl) (by kernel_rfl) rfl (fun _ _ _ h => h) (Y.assign rfl rfl) ?_
          refine TA.done (by kernel_rfl) ?_
          refine TQ.next ?_
          refine TC.ret ?_
          refine TQ.retE (res1 rfl rfl) (⟨by rw [crc_xor, beq_self_eq_true], rfl⟩) ?_
          exact (by (repeat first | (with_reducible exact Ent.refl) | (with_reducible exact Ent.nil) | refine Ent.cons (by first | (with_reducible (repeat first | exact Pull.here | apply Pull.there); done) | (repeat first | exact Pull.here | apply Pull.there)) ?_ | refine Ent.skip ?_))
      · skip
        refine TAo.eff rfl rfl rfl rfl (X.makeSlice rfl el22 rfl rfl (by omega) (by omega) (by simp only [maxLen]; omega)) ?_
        rintro _ _ ⟨g62, rfl, rfl⟩
        refine ⟨(Or.inr (fun w h A hA => by cases hA)), ?_⟩
        refine TA.one 1 (by kernel_rfl) rfl rfl rfl rfl (X.call rfl Try.func11 (by kernel_rfl) rfl rfl (Fn.pre (crc_fn (SA.owns 5 1 (.slice (some ⟨gz, 0, none⟩) k k) k ((zw xs ys k k).map v8)) _ k k _ Reads.owns (zw_len _ _ _ _) _) (Ent.cons (by first | (with_reducible (repeat first | exact Pull.here | apply Pull.there); done) | (repeat first | exact Pull.here | apply Pull.there)) Ent.refl))) ?_
        rintro _ _ ⟨rfl, rfl⟩
        refine ⟨(Or.inr (fun w h A hA => by cases hA)), ?_⟩
        refine TA.one 3 (by kernel_rfl) rfl rfl rfl rfl (X.call rfl Try.func11 (by kernel_rfl) rfl rfl (Fn.pre (crc_fn (SA.owns 5 1 (.slice (some ⟨gx, 0, none⟩) k k) k ((cp xs k k).map v8)) _ k k _ Reads.owns (cp_len _ _ _) _) (Ent.cons (by first | (with_reducible (repeat first | exact Pull.here | apply Pull.there); done) | (repeat first | exact Pull.here | apply Pull.there)) Ent.refl))) ?_
        rintro _ _ ⟨rfl, rfl⟩
        refine ⟨(Or.inr (fun w h A hA => by cases hA)), ?_⟩
        refine TA.one 5 (by kernel_rfl) rfl rfl rfl rfl (X.call rfl Try.func11 (by kernel_rfl) rfl rfl (Fn.pre (crc_fn (SA.owns 5 1 (.slice (some ⟨gy, 0, none⟩) k k) k ((cp ys k k).map v8)) _ k k _ Reads.owns (cp_len _ _ _) _) (Ent.cons (by first | (with_reducible (repeat first | exact Pull.here | apply Pull.there); done) | (repeat first | exact Pull.here | apply Pull.there)) Ent.refl))) ?_
        rintro _ _ ⟨rfl, rfl⟩
        refine ⟨(Or.inr (fun w h A hA => by cases hA)), ?_⟩
        refine TA.takeP 6 rfl rfl rfl rfl (by kernel_rfl) (by kernel_rfl) (by kernel_rfl) rfl (fun _ _ _ h => h) (Y.bin rfl rfl rfl (br_xor32)) ?_
        refine TA.one 9 (by kernel_rfl) rfl rfl rfl rfl (X.call rfl Try.func11 (by kernel_rfl) rfl rfl (Fn.pre (crc_fn (SA.owns 5 1 (.slice (some ⟨g62, 0, none⟩) k k) k ((List.replicate k (0 : UInt8)).map v8)) _ k k _ Reads.owns (by simp) _) (Ent.cons (by rw [← made0]; exact (by first | (with_reducible (repeat first | exact Pull.here | apply Pull.there); done) | (repeat first | exact Pull.here | apply Pull.there))) Ent.refl))) ?_
        rintro _ _ ⟨rfl, rfl⟩
        refine ⟨(Or.inr (fun w h A hA => by cases hA)), ?_⟩
        refine TA.takeP 10 rfl rfl rfl rfl (by kernel_rfl) (by kernel_rfl) (by kernel_rfl) rfl (fun _ _ _ h => h) (Y.bin rfl rfl rfl (br_xor32)) ?_
        refine TA.takeP 11 rfl rfl rfl rfl (by kernel_rfl) (by kernel_rfl) (by kernel_rfl) rfl (fun _ _ _ h => h) (Y.bin rfl rfl rfl (br_eq32)) ?_
        refine TA.takeP 12 rfl rfl rfl rfl (by kernel_rfl) (by kernel_rfl) (by kernel_rfl) rfl (fun _ _ _ h => h) (Y.assign rfl rfl) ?_
        refine TA.done (by kernel_rfl) ?_
        refine TQ.next ?_
        refine TC.ret ?_
        refine TQ.retE (res1 rfl rfl) (⟨by rw [crc_xor, beq_self_eq_true], rfl⟩) ?_
        exact (by (repeat first | (with_reducible exact Ent.refl) | (with_reducible exact Ent.nil) | refine Ent.cons (by first | (with_reducible (repeat first | exact Pull.here | apply Pull.there); done) | (repeat first | exact Pull.here | apply Pull.there)) ?_ | refine Ent.skip ?_))
end sha
end Go.Proofs.Ytdffafhfpfipaaa
