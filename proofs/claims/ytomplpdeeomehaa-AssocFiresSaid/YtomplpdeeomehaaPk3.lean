/- The logic and the walks, in one text with others: part 3 of 6. -/
import Derived.Test.YtomplpdeeomehaaPk2
/- The HMAC, the program's and the document's. -/
namespace Go.Proofs.Ytomplpdeeomehaa
set_option linter.unusedVariables false
set_option linter.unusedSimpArgs false
open Go.RowKit
namespace sha
namespace FxShaMac
set_option maxRecDepth 100000
theorem ag101 : Program.aggN Try.prog 101 = some 20 := by kernel_rfl
theorem ar105 : Program.arrI Try.prog 105 = some (64, 1) := by kernel_rfl
theorem ar106 : Program.arrI Try.prog 106 = some (2, 64) := by kernel_rfl
theorem el24 : Elt Try.prog 24 23 1 24 (.slice none 0 0) := ⟨Try.underlying24, by kernel_rfl, rfl, by decide, by simp [Value.cells, Value.oneCell']⟩
theorem sc5 : Program.isSc Try.prog 5 = true := by kernel_rfl
theorem sz101 : (Try.prog.info? 101).map (·.size) = some 20 := by kernel_rfl
theorem sz5 : (Try.prog.info? 5).map (·.size) = some 1 := by kernel_rfl
theorem zc101 : Program.zeroC Try.prog 101 = some ((List.replicate 20 (0 : UInt8)).map v8).toArray := by kernel_rfl
theorem zc106 : Program.zeroC Try.prog 106 = some ((List.replicate 128 (0 : UInt8)).map v8).toArray := by kernel_rfl
theorem zc107 : Program.zeroC Try.prog 107 = some ((List.replicate 2 (0 : UInt8)).map v8).toArray := by kernel_rfl
end FxShaMac
open FxShaMac
def keyed (key : List UInt8) : List UInt8 := if 64 < key.length then sha key else key
def row (kb : List UInt8) (x : UInt8) : List UInt8 := tab 64 fun m => kb.getD m 0 ^^^ x
def mac (key msg : List UInt8) : List UInt8 := sha (row (keyed key) 92 ++ sha (row (keyed key) 54 ++ msg))
theorem mac_len (key msg : List UInt8) : (mac key msg).length = 20 := sha_len _
theorem keyed_len (key : List UInt8) : (keyed key).length ≤ 64 := by
  unfold keyed; split
  · rw [sha_len]; decide
  · omega
def px (i : Nat) : UInt8 := if i = 0 then 54 else 92
/-- the pads: rows before i done, row i up to j -/
def pads (kb : List UInt8) (i j : Nat) : List UInt8 := tab 128 fun m => if m / 64 < i then kb.getD (m % 64) 0 ^^^ px (m / 64) else if m / 64 = i then (if m % 64 < j then kb.getD (m % 64) 0 ^^^ px i else kb.getD (m % 64) 0) else 0
def pads0 (kb : List UInt8) (i : Nat) : List UInt8 := tab 128 fun m => if m / 64 < i then kb.getD (m % 64) 0 ^^^ px (m / 64) else 0
theorem pads0_0 (kb : List UInt8) : List.replicate 128 0 = pads0 kb 0 := by rw [tab_rep, pads0]; exact tab_congr fun i hi => by simp
theorem pads_copy (kb : List UInt8) (i : Nat) (hi : i < 2) (hk : kb.length ≤ 64) : (pads0 kb i).take (i * 64) ++ kb ++ (pads0 kb i).drop (i * 64 + kb.length) = pads kb i 0 := by
  rw [pads0, tab_write (d := 0) (by omega), pads]
  refine tab_congr fun m hm => ?_
  by_cases h1 : i * 64 ≤ m ∧ m < i * 64 + kb.length
  · rw [if_pos h1, if_neg (by omega), if_pos (by omega), if_neg (by omega)]; congr 1; omega
  · rw [if_neg h1]
    by_cases h2 : m / 64 < i
    · rw [if_pos h2, if_pos h2]
    · rw [if_neg h2, if_neg h2]
      by_cases h3 : m / 64 = i
      · rw [if_pos h3, if_neg (by omega), List.getD_eq_getElem?_getD, List.getElem?_eq_none (by omega)]; rfl
      · rw [if_neg h3]
theorem pads_set (kb : List UInt8) (i j : Nat) (hi : i < 2) (hj : j < 64) : (pads kb i j).set (i * 64 + j) ((pads kb i j).getD (i * 64 + j) 0 ^^^ px i) = pads kb i (j + 1) := by
  have e : (pads kb i j).getD (i * 64 + j) 0 = kb.getD j 0 := by
    rw [pads, tab_getD (by omega), if_neg (by omega), if_pos (by omega), if_neg (by omega)]; congr 1; omega
  rw [e, pads, tab_set, pads]
  refine tab_congr fun m hm => ?_
  by_cases h : m = i * 64 + j
  · rw [if_pos h, if_neg (by omega), if_pos (by omega), if_pos (by omega)]; congr 2; omega
  · rw [if_neg h]
    by_cases h2 : m / 64 < i
    · rw [if_pos h2, if_pos h2]
    · rw [if_neg h2, if_neg h2]
      by_cases h3 : m / 64 = i
      · rw [if_pos h3, if_pos h3]
        by_cases h4 : m % 64 < j
        · rw [if_pos h4, if_pos (by omega)]
        · rw [if_neg h4, if_neg (by omega)]
      · rw [if_neg h3, if_neg h3]
theorem pads_64 (kb : List UInt8) (i : Nat) : pads kb i 64 = pads0 kb (i + 1) := by
  rw [pads, pads0]
  refine tab_congr fun m hm => ?_
  by_cases h2 : m / 64 < i
  · rw [if_pos h2, if_pos (by omega)]
  · rw [if_neg h2]
    by_cases h3 : m / 64 = i
    · rw [if_pos h3, if_pos (by omega), if_pos (by omega), h3]
    · rw [if_neg h3, if_neg (by omega)]
theorem pads_len (kb : List UInt8) (i j : Nat) : (pads kb i j).length = 128 := tab_len
theorem pads0_len (kb : List UInt8) (i : Nat) : (pads0 kb i).length = 128 := tab_len
theorem row_len (kb : List UInt8) (x : UInt8) : (row kb x).length = 64 := tab_len
theorem pads0_row (kb : List UInt8) (r : Nat) (hr : r < 2) : ∀ j u, ((row kb (px r)).map v8)[j]? = some u → ((pads0 kb 2).map v8).toArray[r * 64 + j]? = some u := by
  intro j u h
  rw [List.getElem?_toArray]
  rw [List.getElem?_map] at h ⊢
  rw [row, tab_get] at h
  rw [pads0, tab_get]
  split at h
  · rw [if_pos (by omega), if_pos (by omega)]
    rw [show (r * 64 + j) % 64 = j by omega, show (r * 64 + j) / 64 = r by omega]
    exact h
  · cases h
theorem getPx {k : Nat} (h : k < 2) : (#[Value.int .u8 54, Value.int .u8 92] : Array Value)[k]? = some (v8 (px k)) := by
  match k, h with
  | 0, _ => rfl
  | 1, _ => rfl
set_option maxHeartbeats 4000000 in
theorem mac_fn (a : Option Addr) (n cap : Nat) (key : List UInt8) (hn : key.length = n) (am : Option Addr) (nm cm : Nat) (msg : List UInt8) (hm : msg.length = nm) (hln : n ≤ 140737488353000) (hlm : nm ≤ 140737488353000) (L : List SA) :
    Fn Try.prog 54 [.slice a n cap, .slice am nm cm] (SA.rds 1 (.slice a n cap) n (key.map v8) :: SA.rds 1 (.slice am nm cm) nm (msg.map v8) :: L)
      (fun v L' => v = .agg ((mac key msg).map v8).toArray ∧ L' = SA.rds 1 (.slice a n cap) n (key.map v8) :: SA.rds 1 (.slice am nm cm) nm (msg.map v8) :: L) := by
  subst hn; subst hm
  refine Fn.of (N := 52) Try.func54 rfl rfl ?_
  intro Xh
  refine TC.to (Ent.dup Dup.rds) ?_
  refine TC.seq ?_
  refine TC.region ?_
  refine TL.eff rfl rfl rfl (X.alloc rfl zc101) ?_
  rintro _ _ ⟨b4, rfl, rfl⟩
  refine TL.nil ?_
  refine TQ.next ?_
  refine TC.cutF (ι := Option Addr × Nat) [] (fun _ => True) (fun i => [(0, some (.slice i.1 (keyed key).length i.2))]) (fun i => [SA.rds 1 (.slice i.1 (keyed key).length i.2) (keyed key).length ((keyed key).map v8)]) (Ao := [SA.rds 1 (.slice a key.length cap) key.length (key.map v8)]) (Pulls.cons pul Pulls.nil) ?_ ?_
  · rintro L' hL'
    simp only [List.cons_append, List.nil_append] at hL'
    subst hL'
    refine TC.seq ?_
    refine TC.region ?_
    refine TL.val rfl rfl rfl (Y.move rfl rfl) ?_
    refine TL.val rfl rfl rfl (Y.len rfl Try.underlying23 rfl) ?_
    refine TL.val rfl rfl rfl (Y.bin rfl rfl rfl (br_gtN (n := 64))) ?_
    refine TL.nil ?_
    refine TQ.next ?_
    refine TC.cond rfl (fun c0 => ?_) (fun c0 => ?_)
    · try simp only [decide_eq_true_eq, decide_eq_false_iff_not, Bool.not_eq_true', Bool.not_eq_false', Bool.and_eq_true, Bool.or_eq_true, Nat.not_lt, Nat.not_le, beq_iff_eq, bne_iff_ne] at c0
      have hk : keyed key = sha key := if_pos c0
      refine TC.to (Ent.part1 (x := (a, cap, key))) ?_
      refine TC.seq ?_
      refine TC.region ?_
      refine TL.val rfl rfl rfl (Y.move rfl rfl) ?_
      refine TL.eff rfl rfl rfl (X.lit rfl el24 rfl rfl rfl (by decide) rfl) ?_
      rintro _ _ ⟨g15, rfl, rfl⟩
      refine TL.eff rfl rfl rfl (X.call rfl Try.func56 (by kernel_rfl) rfl rfl (Fn.pre (sum_fn _ _ _ _ [(a, cap, key)] _ (Reads.owns (e := 23)) rfl rfl (by simp [cat]; omega) _) (Ent.cons pul (Ent.cons pul Ent.refl)))) ?_
      rintro _ _ ⟨rfl, rfl⟩
      rw [show cat [(a, cap, key)] = key by simp [cat]]
      have hsl := sha_len key
      refine TL.eff rfl rfl rfl (X.alloc rfl zc101) ?_
      rintro _ _ ⟨b5, rfl, rfl⟩
      refine TL.eff0 rfl rfl (by first | exact X.storeAll rfl sz101 szz rfl rfl (by simp [Value.oneCell']) pul szz | exact X.storeAgg rfl sz101 szz rfl rfl (by simp [Value.oneCell']) pul szz (writeM (by ((try simp only [List.length_set, List.length_map, List.length_append, List.length_replicate]); omega)))) ?_
      rintro _ _ rfl
      refine TL.nil ?_
      refine TQ.next ?_
      refine TC.region ?_
      refine TL.val rfl rfl rfl (Y.sliceArr rfl Try.underlying101 sz5 rfl) ?_
      refine TL.val rfl rfl rfl (Y.assign rfl rfl) ?_
      refine TL.nil ?_
      refine TQ.to (Ent.trans (Pull.ent (A := SA.blk b5 _ _) pul) (Ent.freezeB.trans (Ent.rblkRds (sz := 1) (k := 0) (n := 20) (c := 20) (l := (sha key).map v8) (by simp [sha_len]) one8 (Nat.le_refl _) (by decide) (fun j u h => by simpa using h)))) ?_
      refine TQ.meetF ((_, _)) (trivial) (by first | exact ⟨by rw [hk]; rfl, trivial⟩ | exact ⟨by rw [hk, sha_len]; rfl, trivial⟩) (by (repeat first | apply Grow.refl | apply Grow.step | apply Grow.app)) ?_ ?_
      · kernel_rfl
      · simp only [List.cons_append, List.nil_append]
        exact (by first | (rw [hk, sha_len]; exact ett) | (rw [hk]; exact ett))
    · try simp only [decide_eq_true_eq, decide_eq_false_iff_not, Bool.not_eq_true', Bool.not_eq_false', Bool.and_eq_true, Bool.or_eq_true, Nat.not_lt, Nat.not_le, beq_iff_eq, bne_iff_ne] at c0
      have hk : keyed key = key := if_neg (by omega)
      refine TC.skip ?_
      refine TQ.meetF ((_, _)) (trivial) (by first | exact ⟨by rw [hk]; rfl, trivial⟩ | exact ⟨by rw [hk, sha_len]; rfl, trivial⟩) (by (repeat first | apply Grow.refl | apply Grow.step | apply Grow.app)) ?_ ?_
      · kernel_rfl
      · simp only [List.cons_append, List.nil_append]
        exact (by first | (rw [hk, sha_len]; exact ett) | (rw [hk]; exact ett))
  · rintro ⟨ak, ck⟩ - F' L' rfl hL'
    simp only [List.cons_append, List.nil_append] at hL'
    subst hL'
    have hkl := keyed_len key
    generalize hkb : keyed key = kb at hkl ⊢
    refine TC.seq ?_
    refine TC.region ?_
    refine TL.eff rfl rfl rfl (X.alloc rfl zc106) ?_
    rintro _ _ ⟨b6, rfl, rfl⟩
    refine TL.nil ?_
    refine TQ.next ?_
    refine TC.seq ?_
    refine TC.seq ?_
    refine TC.region ?_
    refine TL.val rfl rfl rfl (Y.buildM rfl rfl Try.underlying107 sz5 zc107 rfl rfl rfl (by first | exact (by simp only [List.all_cons, List.all_nil, Value.oneCell', Bool.and_self]) | rfl)) ?_
    refine TL.val rfl rfl rfl (Y.move rfl rfl) ?_
    refine TL.nil ?_
    refine TQ.next ?_
    refine TC.block ?_
    refine TC.loopF (ι := Nat) [] (fun k => k ≤ 2) (fun k => [(19, some (vN k))]) (fun k => [SA.blk b6 ((pads0 kb k).map v8).toArray 106]) (fun k => 2 - k) (0) (by omega) ⟨rfl, trivial⟩ (by rw [← pads0_0]; exact Pulls.cons pul Pulls.nil) ?_
    rintro k hk F' L' rfl hL'
    simp only [List.cons_append, List.nil_append] at hL'
    subst hL'
    have hpl := pads0_len kb k
    refine TC.seq ?_
    refine TC.region ?_
    refine TL.val rfl rfl rfl (Y.bin rfl rfl rfl (br_ltN (n := 2))) ?_
    refine TL.nil ?_
    refine TQ.next ?_
    refine TC.seq ?_
    refine TC.cond rfl (fun c1 => ?_) (fun c1 => ?_)
    · try simp only [decide_eq_true_eq, decide_eq_false_iff_not, Bool.not_eq_true', Bool.not_eq_false', Bool.and_eq_true, Bool.or_eq_true, Nat.not_lt, Nat.not_le, beq_iff_eq, bne_iff_ne] at c1
      refine TC.skip ?_
      refine TQ.next ?_
      refine TC.seq ?_
      refine TC.block ?_
      refine TC.seq ?_
      refine TC.region ?_
      refine TL.val rfl rfl rfl (Y.move rfl rfl) ?_
      refine TL.val rfl rfl rfl (Y.indexAgg rfl Try.underlying107 sc5 sz5 rfl rfl (by omega) (getPx (by omega))) ?_
      refine TL.val rfl rfl rfl (Y.assign rfl rfl) ?_
      refine TL.val rfl rfl rfl (Y.assign rfl rfl) ?_
      refine TL.nil ?_
      refine TQ.next ?_
      refine TC.seq ?_
      refine TC.region ?_
      refine TL.val rfl rfl rfl (Y.move rfl rfl) ?_
      refine TL.val rfl rfl rfl (Y.indexArr rfl ar106 rfl rfl (by omega) nqq) ?_
      refine TL.val rfl rfl rfl (Y.sliceArr rfl Try.underlying105 sz5 rfl) ?_
      refine TL.val rfl rfl rfl (Y.move rfl rfl) ?_
      refine TL.eff rfl rfl rfl (X.copyBlk rfl Try.underlying23 sz5 rfl rfl (Src.rds Try.underlying23 inn) pul (by omega) (by simp [pads0_len]; omega) (by rw [writeAt_list _ _ _ (by simp [pads0_len]; omega)])) ?_
      rintro _ _ ⟨rfl, rfl⟩
      refine TL.nil ?_
      refine TQ.next ?_
      refine TC.seq ?_
      refine TC.region ?_
      refine TL.val rfl rfl rfl (Y.move rfl rfl) ?_
      refine TL.nil ?_
      refine TQ.next ?_
      refine TC.block ?_
      have ep : (List.take (k * 64) (List.map v8 (pads0 kb k)) ++ List.map v8 kb ++ List.drop (k * 64 + (List.map v8 kb).length) (List.map v8 (pads0 kb k))) = List.map v8 (pads kb k 0) := by rw [← pads_copy kb k (by omega) hkl]; simp
      rw [ep]
      refine TC.loopF (ι := Nat) [] (fun j => j ≤ 64) (fun j => [(28, some (vN j))]) (fun j => [SA.blk b6 ((pads kb k j).map v8).toArray 106]) (fun j => 64 - j) (0) (by omega) ⟨rfl, trivial⟩ (Pulls.cons pul Pulls.nil) ?_
      rintro j hj F' L' rfl hL'
      simp only [List.cons_append, List.nil_append] at hL'
      subst hL'
      have hpl2 := pads_len kb k j
      refine TC.seq ?_
      refine TC.region ?_
      refine TL.val rfl rfl rfl (Y.bin rfl rfl rfl (br_ltN (n := 64))) ?_
      refine TL.nil ?_
      refine TQ.next ?_
      refine TC.seq ?_
      refine TC.cond rfl (fun c2 => ?_) (fun c2 => ?_)
      · try simp only [decide_eq_true_eq, decide_eq_false_iff_not, Bool.not_eq_true', Bool.not_eq_false', Bool.and_eq_true, Bool.or_eq_true, Nat.not_lt, Nat.not_le, beq_iff_eq, bne_iff_ne] at c2
        refine TC.skip ?_
        refine TQ.next ?_
        refine TC.seq ?_
        refine TC.block ?_
        refine TC.seq ?_
        refine TC.region ?_
        refine TL.val rfl rfl rfl (Y.move rfl rfl) ?_
        refine TL.val rfl rfl rfl (Y.assign rfl rfl) ?_
        refine TL.nil ?_
        refine TQ.next ?_
        refine TC.draws 9 _ (by kernel_rfl) (by kernel_rfl) (fun _ h => h) ?_
        refine TA.take 0 rfl rfl rfl rfl (by kernel_rfl) (by kernel_rfl) (by kernel_rfl) rfl (by kernel_rfl) (by kernel_rfl) (fun _ _ _ h => h) (Y.move rfl rfl) ?_
        refine TA.take 1 rfl rfl rfl rfl (by kernel_rfl) (by kernel_rfl) (by kernel_rfl) rfl (by kernel_rfl) (by kernel_rfl) (fun _ _ _ h => h) (Y.move rfl rfl) ?_
        refine TA.take 2 rfl rfl rfl rfl (by kernel_rfl) (by kernel_rfl) (by kernel_rfl) rfl (by kernel_rfl) (by kernel_rfl) (fun _ _ _ h => h) (Y.indexArr rfl ar106 rfl rfl (by omega) nqq) ?_
        refine TA.take 3 rfl rfl rfl rfl (by kernel_rfl) (by kernel_rfl) (by kernel_rfl) rfl (by kernel_rfl) (by kernel_rfl) (fun _ _ _ h => h) (Y.indexArr rfl ar105 rfl rfl (by omega) nqq) ?_
        refine TA.take 4 rfl rfl rfl rfl (by kernel_rfl) (by kernel_rfl) (by kernel_rfl) rfl (by kernel_rfl) (by kernel_rfl) (fun _ _ _ h => h) (Y.load rfl sc5 rfl ceo8) ?_
        refine TA.take 5 rfl rfl rfl rfl (by kernel_rfl) (by kernel_rfl) (by kernel_rfl) rfl (by kernel_rfl) (by kernel_rfl) (fun _ _ _ h => h) (Y.move rfl rfl) ?_
        refine TA.take 6 rfl rfl rfl rfl (by kernel_rfl) (by kernel_rfl) (by kernel_rfl) rfl (by kernel_rfl) (by kernel_rfl) (fun _ _ _ h => h) (Y.bin rfl rfl rfl (br_xor8)) ?_
        refine TA.takeP 7 rfl rfl rfl rfl (by kernel_rfl) (by kernel_rfl) (by kernel_rfl) rfl (fun _ _ _ h => h) (Y.indexArr rfl ar106 rfl rfl (by omega) nqq) ?_
        refine TA.take 8 rfl rfl rfl rfl (by kernel_rfl) (by kernel_rfl) (by kernel_rfl) rfl (by kernel_rfl) (by kernel_rfl) (fun _ _ _ h => h) (Y.indexArr rfl ar105 rfl rfl (by omega) nqq) ?_
        refine TA.one0 9 (by kernel_rfl) rfl rfl rfl (by first | exact X.store rfl sz5 rfl rfl rfl pul lnn (by first | exact setM | rfl) | exact X.storeOwn rfl sz5 rfl (Nat.zero_add _).symm rfl rfl pul lnn (by first | exact setML | rfl) | exact X.storeOwn rfl sz5 rfl rfl rfl rfl pul lnn (by first | exact setML | rfl)) ?_
        rintro _ _ rfl
        refine ⟨(Or.inl (by kernel_rfl)), ?_⟩
        refine TA.done (by kernel_rfl) ?_
        refine TQ.block_normal ?_
        refine TQ.next ?_
        refine TC.region ?_
        refine TL.val rfl rfl rfl (Y.bin rfl rfl rfl (br_addN (n := 1) (by omega))) ?_
        refine TL.val rfl rfl rfl (Y.move rfl rfl) ?_
        refine TL.nil ?_
        refine TQ.loopF (j + 1) (by omega) (by omega) ⟨rfl, trivial⟩ (by (repeat first | apply Grow.refl | apply Grow.step | apply Grow.app)) ?_ ?_ ?_
        · kernel_rfl
        · rfl
        · simp only [List.cons_append, List.nil_append]
          exact (by rw [← pads_set kb k j (by omega) (by omega)]; exact ett)
      · try simp only [decide_eq_true_eq, decide_eq_false_iff_not, Bool.not_eq_true', Bool.not_eq_false', Bool.and_eq_true, Bool.or_eq_true, Nat.not_lt, Nat.not_le, beq_iff_eq, bne_iff_ne] at c2
        refine TC.exit ?_
        refine TQ.then_exit ?_
        refine TQ.then_exit ?_
        refine TQ.block_exit ?_
        refine TQ.block_normal ?_
        refine TQ.next ?_
        refine TC.region ?_
        refine TL.val rfl rfl rfl (Y.bin rfl rfl rfl (br_addN (n := 1) (by omega))) ?_
        refine TL.val rfl rfl rfl (Y.move rfl rfl) ?_
        refine TL.nil ?_
        obtain rfl : j = 64 := by omega
        rw [pads_64]
        refine TQ.loopF (k + 1) (by omega) (by omega) ⟨rfl, trivial⟩ (by (repeat first | apply Grow.refl | apply Grow.step | apply Grow.app)) ?_ ?_ ?_
        · kernel_rfl
        · rfl
        · simp only [List.cons_append, List.nil_append]
          exact ett
    · try simp only [decide_eq_true_eq, decide_eq_false_iff_not, Bool.not_eq_true', Bool.not_eq_false', Bool.and_eq_true, Bool.or_eq_true, Nat.not_lt, Nat.not_le, beq_iff_eq, bne_iff_ne] at c1
      refine TC.exit ?_
      refine TQ.then_exit ?_
      refine TQ.then_exit ?_
      refine TQ.block_exit ?_
      refine TQ.next ?_
      refine TC.seq ?_
      obtain rfl : k = 2 := by omega
      have hr0 := row_len kb 54
      have hr1 := row_len kb 92
      refine TC.to (Ent.trans (Pull.ent (A := SA.blk b6 _ _) pul) (Ent.freezeB.trans ((Ent.dup Dup.rblk).trans (Ent.rblkRds (sz := 1) (k := 0) (n := 64) (c := 64) (l := (row kb 54).map v8) (by simp [hr0]) one8 (Nat.le_refl _) (by decide) (fun j u h => by have := pads0_row kb 0 (by decide) j u h; simpa using this))))) ?_
      refine TC.to (Ent.trans (Pull.ent (A := SA.rds 1 (.slice am _ _) _ _) pul) Ent.swap) ?_
      refine TC.to (Ent.trans (by rw [show (64 : Nat) = (row kb 54).length from hr0.symm]; exact Ent.refl) (Ent.part2 (x := (some ⟨b6, 0, none⟩, 64, row kb 54)) (z := (am, cm, msg)))) ?_
      refine TC.region ?_
      refine TL.val rfl rfl rfl (Y.indexArr (j := 0) rfl ar106 rfl rfl (by omega) nqq) ?_
      refine TL.val rfl rfl rfl (Y.sliceArr rfl Try.underlying105 sz5 rfl) ?_
      refine TL.val rfl rfl rfl (Y.move rfl rfl) ?_
      refine TL.eff rfl rfl rfl (X.lit rfl el24 rfl rfl rfl (by decide) rfl) ?_
      rintro _ _ ⟨g45, rfl, rfl⟩
      refine TL.eff rfl rfl rfl (X.call rfl Try.func56 (by kernel_rfl) rfl rfl (Fn.pre (sum_fn _ _ _ _ [(some ⟨b6, 0, none⟩, 64, row kb 54), (am, cm, msg)] [.slice (some ⟨b6, 0, none⟩) 64 64, .slice am msg.length cm] (Reads.owns (e := 23)) (by simp [pv, hr0]) rfl (by simp [cat, hr0]; omega) _) (Ent.cons pul (Ent.cons pul Ent.refl)))) ?_
      rintro _ _ ⟨rfl, rfl⟩
      rw [show cat [(some ⟨b6, 0, none⟩, 64, row kb 54), (am, cm, msg)] = row kb 54 ++ msg by simp [cat]]
      have hsl := sha_len (row kb 54 ++ msg)
      generalize hH : sha (row kb 54 ++ msg) = h at hsl ⊢
      refine TL.eff rfl rfl rfl (X.alloc rfl zc101) ?_
      rintro _ _ ⟨b10, rfl, rfl⟩
      refine TL.eff0 rfl rfl (by first | exact X.storeAll rfl sz101 szz rfl rfl (by simp [Value.oneCell']) pul szz | exact X.storeAgg rfl sz101 szz rfl rfl (by simp [Value.oneCell']) pul szz (writeM (by ((try simp only [List.length_set, List.length_map, List.length_append, List.length_replicate]); omega)))) ?_
      rintro _ _ rfl
      refine TL.nil ?_
      refine TQ.next ?_
      refine TC.seq ?_
      refine TC.to (Ent.trans (Pull.ent (A := SA.blk b10 _ _) pul) (Ent.freezeB.trans (Ent.rblkRds (sz := 1) (k := 0) (n := h.length) (c := 20) (l := h.map v8) (by simp) one8 (by omega) (by decide) (fun j u h => by simpa using h)))) ?_
      refine TC.to (Ent.trans (Pull.ent (A := SA.rblk b6 _ _) pul) (Ent.rblkRds (sz := 1) (k := 64) (n := (row kb 92).length) (c := 64) (l := (row kb 92).map v8) (by simp) one8 (by omega) (by decide) (fun j u h => by have := pads0_row kb 1 (by decide) j u h; simpa using this))) ?_
      refine TC.to (Ent.part2 (x := (some ⟨b6, 64, none⟩, 64, row kb 92)) (z := (some ⟨b10, 0, none⟩, 20, h))) ?_
      refine TC.draws 5 [] (by kernel_rfl) (by kernel_rfl) (fun _ _ A hA => by cases hA) ?_
      refine TA.take 0 rfl rfl rfl rfl (by kernel_rfl) (by kernel_rfl) (by kernel_rfl) rfl (by kernel_rfl) (by kernel_rfl) (fun _ _ _ h => h) (Y.indexArr (j := 1) rfl ar106 rfl rfl (by omega) nqq) ?_
      refine TA.take 1 rfl rfl rfl rfl (by kernel_rfl) (by kernel_rfl) (by kernel_rfl) rfl (by kernel_rfl) (by kernel_rfl) (fun _ _ _ h => h) (Y.sliceArr rfl Try.underlying105 sz5 rfl) ?_
      refine TA.take 2 rfl rfl rfl rfl (by kernel_rfl) (by kernel_rfl) (by kernel_rfl) rfl (by kernel_rfl) (by kernel_rfl) (fun _ _ _ h => h) (Y.sliceArr rfl Try.underlying101 sz5 rfl) ?_
      refine TA.one 3 (by kernel_rfl) rfl rfl rfl rfl (X.lit rfl el24 rfl rfl rfl (by decide) rfl) ?_
      rintro _ _ ⟨g50, rfl, rfl⟩
      refine ⟨(Or.inr (fun w h A hA => by cases hA)), ?_⟩
      refine TA.one 4 (by kernel_rfl) rfl rfl rfl rfl (X.call rfl Try.func56 (by kernel_rfl) rfl rfl (Fn.pre (sum_fn _ _ _ _ [(some ⟨b6, 64, none⟩, 64, row kb 92), (some ⟨b10, 0, none⟩, 20, h)] [.slice (some ⟨b6, 64, none⟩) 64 64, .slice (some ⟨b10, 0, none⟩) 20 20] (Reads.owns (e := 23)) (by simp [pv, hr1, hsl]) rfl (by simp [cat, hr1, hsl]) _) (Ent.cons pul (Ent.cons pul Ent.refl)))) ?_
      rintro _ _ ⟨rfl, rfl⟩
      rw [show cat [(some ⟨b6, 64, none⟩, 64, row kb 92), (some ⟨b10, 0, none⟩, 20, h)] = row kb 92 ++ h by simp [cat]]
      have hsl2 := sha_len (row kb 92 ++ h)
      refine ⟨(Or.inr (fun w h A hA => by cases hA)), ?_⟩
      refine TA.one0 5 (by kernel_rfl) rfl rfl rfl (by first | exact X.storeAll rfl sz101 szz rfl rfl (by simp [Value.oneCell']) pul szz | exact X.storeAgg rfl sz101 szz rfl rfl (by simp [Value.oneCell']) pul szz (writeM (by ((try simp only [List.length_set, List.length_map, List.length_append, List.length_replicate]); omega)))) ?_
      rintro _ _ rfl
      refine ⟨(Or.inl (by kernel_rfl)), ?_⟩
      refine TA.done (by kernel_rfl) ?_
      refine TQ.next ?_
      refine TC.ret ?_
      refine TQ.retE (resC rfl ag101 rfl (Cels.full inn) szz) (⟨by rw [mac, hkb, hH], rfl⟩) ?_
      exact ett
end sha
end Go.Proofs.Ytomplpdeeomehaa

/- assoc: a side's state; the small functions, walked. -/
namespace Go.Proofs.Ytomplpdeeomehaa
set_option linter.unusedVariables false
set_option linter.unusedSimpArgs false
open Go.RowKit
namespace ac
open wr (be16 be32)
namespace FxAsA
set_option maxRecDepth 100000
theorem fo68_11 : Program.fieldOff Try.prog 68 11 = some 11 := by kernel_rfl
theorem fo68_12 : Program.fieldOff Try.prog 68 12 = some 12 := by kernel_rfl
theorem fo68_3 : Program.fieldOff Try.prog 68 3 = some 3 := by kernel_rfl
theorem fo68_9 : Program.fieldOff Try.prog 68 9 = some 9 := by kernel_rfl
theorem pl66 : Program.places Try.prog 66 = some [(0, 1), (1, 1), (2, 1), (3, 1)] := by kernel_rfl
theorem sc2 : Program.isSc Try.prog 2 = true := by kernel_rfl
theorem sc3 : Program.isSc Try.prog 3 = true := by kernel_rfl
theorem sc64 : Program.isSc Try.prog 64 = true := by kernel_rfl
theorem sc85 : Program.isSc Try.prog 85 = true := by kernel_rfl
theorem zc66 : Program.zeroC Try.prog 66 = some #[.bool false, .int .i64 0, .int .i64 0, .int .i64 0] := by kernel_rfl
theorem zc85 : Program.zeroC Try.prog 85 = some #[.slice none 0 0] := by kernel_rfl
end FxAsA
open FxAsA
abbrev Msg := UInt16 × UInt32 × Bs
abbrev Itm := Msg × Bool
/-- a side -/
structure AS (μ : Type) where
  tag : UInt32
  first : UInt32
  secret : List UInt8
  state : Nat
  known : Bool
  other : UInt32
  top : UInt32
  kept : UInt32 → Option μ
  base : UInt32
  queue : List (μ × Bool)
  sent : Nat
  clock : Int
  tset : Bool
  moment : Int
  delay : Int
  fires : Nat
  shake : List UInt8
/-- where its parts lie -/
structure AP where
  sa : Option Addr
  sc : Nat
  mb : Nat
  qa : Option Addr
  qc : Nat
  ha : Option Addr
  hc : Nat
def asC (p : AP) (S : AS Msg) : Array Value := #[v32 S.tag, v32 S.first, .slice p.sa S.secret.length p.sc, vN S.state, vB S.known, v32 S.other, v32 S.top, .map (some p.mb), v32 S.base, .slice p.qa S.queue.length p.qc, vN S.sent, vI S.clock, vB S.tset, vI S.moment, vI S.delay, vN S.fires, .slice p.ha S.shake.length p.hc]
abbrev aB (b : Nat) (p : AP) (S : AS Msg) : SA := SA.blk b (asC p S) 68
abbrev aS (p : AP) (S : AS Msg) : SA := SA.rds 1 (.slice p.sa S.secret.length p.sc) S.secret.length (S.secret.map v8)
abbrev aM (p : AP) (S : AS Msg) : SA := SA.mapD p.mb S.kept
abbrev aQ (p : AP) (S : AS Msg) : SA := SA.owns 82 4 (.slice p.qa S.queue.length p.qc) S.queue.length (Dat.cs S.queue)
abbrev aD (S : AS Msg) : SA := SA.rdss (S.queue.flatMap Dat.g)
abbrev aH (p : AP) (S : AS Msg) : SA := SA.rds 1 (.slice p.ha S.shake.length p.hc) S.shake.length (S.shake.map v8)
theorem asC_size (p : AP) (S : AS Msg) : (asC p S).size = 17 := rfl
def AS.starts {μ : Type} (S : AS μ) : AS μ := { S with tset := true, moment := S.clock, delay := 1000, fires := 0 }
--REG (*rostrum/assoc.Assoc).start : _ _ ⟨rfl, rfl⟩ => (ac.start_fn _ _ _ _)
theorem start_fn (b : Nat) (p : AP) (S : AS Msg) (L : List SA) : Fn Try.prog 46 [pt b 0] (aB b p S :: L) (fun v L' => v = .tuple #[] ∧ L' = aB b p S.starts :: L) := by
  refine Fn.of (N := 10) Try.func46 rfl rfl ?_
  intro Xh
  refine TC.region ?_
  refine TL.val rfl rfl rfl (Y.move rfl rfl) ?_
  refine TL.val rfl rfl rfl (Y.move rfl rfl) ?_
  refine TL.val rfl rfl rfl (Y.nilCheck rfl rfl) ?_
  refine TL.val rfl rfl rfl (by first | exact Y.fieldAddrJ rfl fo68_11 rfl nqq | exact Y.fieldAddr rfl fo68_11 rfl nqq) ?_
  refine TL.val rfl rfl rfl (Y.load rfl sc2 rfl celN) ?_
  refine TL.as (vI S.clock) (by rfl) ?_
  refine TL.val rfl rfl rfl (Y.buildS (cells := #[vB true, vI S.clock, vI 1000, vN 0]) rfl rfl pl66 zc66 (by kernel_rfl)) ?_
  refine TL.val rfl rfl rfl (Y.nilCheck rfl rfl) ?_
  refine TL.val rfl rfl rfl (by first | exact Y.fieldAddrJ rfl fo68_12 rfl nqq | exact Y.fieldAddr rfl fo68_12 rfl nqq) ?_
  refine TL.eff0 rfl rfl (X.storeAgg (cs' := asC p S.starts) rfl (by kernel_rfl) rfl rfl rfl (allOne (by rfl)) pul (by show 12 + 4 ≤ 17; decide) rfl) ?_
  rintro _ _ rfl
  refine TL.nil ?_
  refine TQ.endE (res0 rfl) (⟨rfl, rfl⟩) ?_
  exact ett
--REG (*rostrum/assoc.Assoc).State : _ _ ⟨rfl, rfl⟩ => (ac.State_fn _ _ _ _)
theorem State_fn (b : Nat) (p : AP) (S : AS Msg) (L : List SA) : Fn Try.prog 14 [pt b 0] (aB b p S :: L) (fun v L' => v = vN S.state ∧ L' = aB b p S :: L) := by
  refine Fn.of (N := 9) Try.func14 rfl rfl ?_
  intro Xh
  refine TC.seq ?_
  refine TC.region ?_
  refine TL.val rfl rfl rfl (Y.assign rfl rfl) ?_
  refine TL.nil ?_
  refine TQ.next ?_
  refine TC.seq ?_
  refine TC.seq ?_
  refine TC.region ?_
  refine TL.val rfl rfl rfl (Y.move rfl rfl) ?_
  refine TL.val rfl rfl rfl (by first | exact Y.eqNilP rfl Try.underlying26 rfl rfl | exact Y.eqNil0 rfl Try.underlying26 rfl rfl) ?_
  refine TL.nil ?_
  refine TQ.next ?_
  refine TC.cond_f rfl ?_
  refine TC.skip ?_
  refine TQ.next ?_
  refine TC.seq ?_
  refine TC.region ?_
  refine TL.val rfl rfl rfl (Y.move rfl rfl) ?_
  refine TL.val rfl rfl rfl (Y.nilCheck rfl rfl) ?_
  refine TL.val rfl rfl rfl (by first | exact Y.fieldAddrJ rfl fo68_3 rfl nqq | exact Y.fieldAddr rfl fo68_3 rfl nqq) ?_
  refine TL.val rfl rfl rfl (Y.load rfl sc3 rfl celN) ?_
  refine TL.val rfl rfl rfl (Y.assign rfl rfl) ?_
  refine TL.nil ?_
  refine TQ.next ?_
  refine TC.ret ?_
  refine TQ.retE (res1 rfl rfl) (⟨rfl, rfl⟩) ?_
  exact ett
--REG (*rostrum/assoc.Assoc).Waiting : _ _ ⟨rfl, rfl⟩ => (ac.Waiting_fn _ _ _ _)
theorem Waiting_fn (b : Nat) (p : AP) (S : AS Msg) (L : List SA) : Fn Try.prog 22 [pt b 0] (aB b p S :: L) (fun v L' => v = vN S.queue.length ∧ L' = aB b p S :: L) := by
  refine Fn.of (N := 10) Try.func22 rfl rfl ?_
  intro Xh
  refine TC.seq ?_
  refine TC.region ?_
  refine TL.val rfl rfl rfl (Y.assign rfl rfl) ?_
  refine TL.nil ?_
  refine TQ.next ?_
  refine TC.seq ?_
  refine TC.seq ?_
  refine TC.region ?_
  refine TL.val rfl rfl rfl (Y.move rfl rfl) ?_
  refine TL.val rfl rfl rfl (by first | exact Y.eqNilP rfl Try.underlying26 rfl rfl | exact Y.eqNil0 rfl Try.underlying26 rfl rfl) ?_
  refine TL.nil ?_
  refine TQ.next ?_
  refine TC.cond_f rfl ?_
  refine TC.skip ?_
  refine TQ.next ?_
  refine TC.seq ?_
  refine TC.region ?_
  refine TL.val rfl rfl rfl (Y.move rfl rfl) ?_
  refine TL.val rfl rfl rfl (Y.nilCheck rfl rfl) ?_
  refine TL.val rfl rfl rfl (by first | exact Y.fieldAddrJ rfl fo68_9 rfl nqq | exact Y.fieldAddr rfl fo68_9 rfl nqq) ?_
  refine TL.val rfl rfl rfl (Y.load rfl sc64 rfl celD) ?_
  refine TL.as (.slice p.qa S.queue.length p.qc) (by rfl) ?_
  refine TL.val rfl rfl rfl (Y.len rfl Try.underlying64 rfl) ?_
  refine TL.val rfl rfl rfl (Y.assign rfl rfl) ?_
  refine TL.nil ?_
  refine TQ.next ?_
  refine TC.ret ?_
  refine TQ.retE (res1 rfl rfl) (⟨rfl, rfl⟩) ?_
  exact ett
theorem State_nil (L : List SA) : Fn Try.prog 14 [.pointer none] L (fun v L' => v = vN 0 ∧ L' = L) := by
  refine Fn.of (N := 9) Try.func14 rfl rfl ?_
  intro Xh
  refine TC.seq ?_
  refine TC.region ?_
  refine TL.val rfl rfl rfl (Y.assign rfl rfl) ?_
  refine TL.nil ?_
  refine TQ.next ?_
  refine TC.seq ?_
  refine TC.seq ?_
  refine TC.region ?_
  refine TL.val rfl rfl rfl (Y.move rfl rfl) ?_
  refine TL.val rfl rfl rfl (by first | exact Y.eqNilP rfl Try.underlying26 rfl rfl | exact Y.eqNil0 rfl Try.underlying26 rfl rfl) ?_
  refine TL.nil ?_
  refine TQ.next ?_
  refine TC.cond_t rfl ?_
  refine TC.seq ?_
  refine TC.region ?_
  refine TL.val rfl rfl rfl (Y.assign rfl rfl) ?_
  refine TL.nil ?_
  refine TQ.next ?_
  refine TC.ret ?_
  refine TQ.then_ret ?_
  refine TQ.retE (res1 rfl rfl) (⟨rfl, rfl⟩) ?_
  exact ett
theorem Waiting_nil (L : List SA) : Fn Try.prog 22 [.pointer none] L (fun v L' => v = vN 0 ∧ L' = L) := by
  refine Fn.of (N := 10) Try.func22 rfl rfl ?_
  intro Xh
  refine TC.seq ?_
  refine TC.region ?_
  refine TL.val rfl rfl rfl (Y.assign rfl rfl) ?_
  refine TL.nil ?_
  refine TQ.next ?_
  refine TC.seq ?_
  refine TC.seq ?_
  refine TC.region ?_
  refine TL.val rfl rfl rfl (Y.move rfl rfl) ?_
  refine TL.val rfl rfl rfl (by first | exact Y.eqNilP rfl Try.underlying26 rfl rfl | exact Y.eqNil0 rfl Try.underlying26 rfl rfl) ?_
  refine TL.nil ?_
  refine TQ.next ?_
  refine TC.cond_t rfl ?_
  refine TC.seq ?_
  refine TC.region ?_
  refine TL.val rfl rfl rfl (Y.assign rfl rfl) ?_
  refine TL.nil ?_
  refine TQ.next ?_
  refine TC.ret ?_
  refine TQ.then_ret ?_
  refine TQ.retE (res1 rfl rfl) (⟨rfl, rfl⟩) ?_
  exact ett
theorem Start_nil (now : Value) (L : List SA) : Fn Try.prog 23 [.pointer none, now] L (fun v L' => v = .tuple #[.slice none 0 0, vN 1] ∧ L' = L) := by
  refine Fn.of (N := 45) Try.func23 rfl rfl ?_
  intro Xh
  refine TC.seq ?_
  refine TC.region ?_
  refine TL.val rfl rfl rfl (Y.assign rfl rfl) ?_
  refine TL.val rfl rfl rfl (Y.assign rfl rfl) ?_
  refine TL.nil ?_
  refine TQ.next ?_
  refine TC.seq ?_
  refine TC.seq ?_
  refine TC.region ?_
  refine TL.val rfl rfl rfl (Y.move rfl rfl) ?_
  refine TL.val rfl rfl rfl (by first | exact Y.eqNilP rfl Try.underlying26 rfl rfl | exact Y.eqNil0 rfl Try.underlying26 rfl rfl) ?_
  refine TL.nil ?_
  refine TQ.next ?_
  refine TC.cond_t rfl ?_
  refine TC.seq ?_
  refine TC.region ?_
  refine TL.val rfl rfl rfl (Y.assign rfl rfl) ?_
  refine TL.val rfl rfl rfl (Y.assign rfl rfl) ?_
  refine TL.nil ?_
  refine TQ.next ?_
  refine TC.ret ?_
  refine TQ.then_ret ?_
  refine TQ.retE (res2 rfl rfl rfl) (⟨rfl, rfl⟩) ?_
  exact ett
theorem Handle_nil (s now : Value) (L : List SA) : Fn Try.prog 12 [.pointer none, s, now] L (fun v L' => v = .tuple #[.slice none 0 0, .slice none 0 0, vN 1] ∧ L' = L) := by
  refine Fn.of (N := 160) Try.func12 rfl rfl ?_
  intro Xh
  refine TC.seq ?_
  refine TC.region ?_
  refine TL.val rfl rfl rfl (Y.assign rfl rfl) ?_
  refine TL.val rfl rfl rfl (Y.assign rfl rfl) ?_
  refine TL.val rfl rfl rfl (Y.assign rfl rfl) ?_
  refine TL.nil ?_
  refine TQ.next ?_
  refine TC.seq ?_
  refine TC.seq ?_
  refine TC.region ?_
  refine TL.val rfl rfl rfl (Y.move rfl rfl) ?_
  refine TL.val rfl rfl rfl (by first | exact Y.eqNilP rfl Try.underlying26 rfl rfl | exact Y.eqNil0 rfl Try.underlying26 rfl rfl) ?_
  refine TL.nil ?_
  refine TQ.next ?_
  refine TC.cond_t rfl ?_
  refine TC.seq ?_
  refine TC.region ?_
  refine TL.val rfl rfl rfl (Y.assign rfl rfl) ?_
  refine TL.val rfl rfl rfl (Y.assign rfl rfl) ?_
  refine TL.val rfl rfl rfl (Y.assign rfl rfl) ?_
  refine TL.nil ?_
  refine TQ.next ?_
  refine TC.ret ?_
  refine TQ.then_ret ?_
  refine TQ.retE (resL rfl (Res.tmp rfl (Res.tmp rfl (Res.tmp rfl Res.nil)))) (⟨rfl, rfl⟩) ?_
  exact ett
theorem Send_nil (m now : Value) (L : List SA) : Fn Try.prog 19 [.pointer none, m, now] L (fun v L' => v = .tuple #[.slice none 0 0, vN 1] ∧ L' = L) := by
  refine Fn.of (N := 52) Try.func19 rfl rfl ?_
  intro Xh
  refine TC.seq ?_
  refine TC.region ?_
  refine TL.eff rfl rfl rfl (X.box rfl rfl rfl) ?_
  rintro _ _ ⟨b4, rfl, rfl⟩
  refine TL.val rfl rfl rfl (Y.assign rfl rfl) ?_
  refine TL.val rfl rfl rfl (Y.assign rfl rfl) ?_
  refine TL.nil ?_
  refine TQ.next ?_
  refine TC.seq ?_
  refine TC.block ?_
  refine TC.seq ?_
  refine TC.region ?_
  refine TL.val rfl rfl rfl (Y.move rfl rfl) ?_
  refine TL.val rfl rfl rfl (by first | exact Y.eqNilP rfl Try.underlying26 rfl rfl | exact Y.eqNil0 rfl Try.underlying26 rfl rfl) ?_
  refine TL.val rfl rfl rfl (Y.assign rfl rfl) ?_
  refine TL.nil ?_
  refine TQ.next ?_
  refine TC.cond_t rfl ?_
  refine TC.seq ?_
  refine TC.region ?_
  refine TL.val rfl rfl rfl (Y.assign rfl rfl) ?_
  refine TL.val rfl rfl rfl (Y.assign rfl rfl) ?_
  refine TL.nil ?_
  refine TQ.next ?_
  refine TC.ret ?_
  refine TQ.block_ret ?_
  refine TQ.then_ret ?_
  refine TQ.retE (res2 rfl rfl rfl) (⟨rfl, rfl⟩) ?_
  exact ett
theorem Tick_nil (now : Value) (L : List SA) : Fn Try.prog 20 [.pointer none, now] L (fun v L' => v = .slice none 0 0 ∧ L' = L) := by
  refine Fn.of (N := 111) Try.func20 rfl rfl ?_
  intro Xh
  refine TC.seq ?_
  refine TC.region ?_
  refine TL.val rfl rfl rfl (Y.assign rfl rfl) ?_
  refine TL.nil ?_
  refine TQ.next ?_
  refine TC.scope ?_
  refine TC.seq ?_
  refine TC.seq ?_
  refine TC.region ?_
  refine TL.val rfl rfl rfl (Y.move rfl rfl) ?_
  refine TL.val rfl rfl rfl (by first | exact Y.eqNilP rfl Try.underlying26 rfl rfl | exact Y.eqNil0 rfl Try.underlying26 rfl rfl) ?_
  refine TL.nil ?_
  refine TQ.next ?_
  refine TC.cond_t rfl ?_
  refine TC.seq ?_
  refine TC.region ?_
  refine TL.val rfl rfl rfl (Y.assign rfl rfl) ?_
  refine TL.nil ?_
  refine TQ.next ?_
  refine TC.ret ?_
  refine TQ.then_ret ?_
  refine TQ.scope_ret ?_
  refine TQ.retE (res1 rfl rfl) (⟨rfl, rfl⟩) ?_
  exact ett
theorem Abort_nil (L : List SA) : Fn Try.prog 24 [.pointer none] L (fun v L' => v = .slice none 0 0 ∧ L' = L) := by
  refine Fn.of (N := 22) Try.func24 rfl rfl ?_
  intro Xh
  refine TC.seq ?_
  refine TC.region ?_
  refine TL.val rfl rfl rfl (Y.assign rfl rfl) ?_
  refine TL.nil ?_
  refine TQ.next ?_
  refine TC.seq ?_
  refine TC.seq ?_
  refine TC.region ?_
  refine TL.val rfl rfl rfl (Y.move rfl rfl) ?_
  refine TL.val rfl rfl rfl (by first | exact Y.eqNilP rfl Try.underlying26 rfl rfl | exact Y.eqNil0 rfl Try.underlying26 rfl rfl) ?_
  refine TL.nil ?_
  refine TQ.next ?_
  refine TC.cond_t rfl ?_
  refine TC.seq ?_
  refine TC.region ?_
  refine TL.val rfl rfl rfl (Y.assign rfl rfl) ?_
  refine TL.nil ?_
  refine TQ.next ?_
  refine TC.ret ?_
  refine TQ.then_ret ?_
  refine TQ.retE (res1 rfl rfl) (⟨rfl, rfl⟩) ?_
  exact ett
/-- a packet's head -/
def pkt (tag : UInt32) (kind : UInt8) : List UInt8 := be32 tag ++ be32 (shl32 kind.toUInt32 24)
theorem pkt_len (tag : UInt32) (kind : UInt8) : (pkt tag kind).length = 8 := rfl
--REG rostrum/assoc.packet : _ _ ⟨a{d}, c{d}, rfl, rfl⟩ => (ac.packet_fn _ {1} _)
theorem packet_fn (tag : UInt32) (kind : UInt8) (L : List SA) : Fn Try.prog 44 [v32 tag, v8 kind] L (fun v L' => ∃ a c, v = .slice a 8 c ∧ L' = SA.owns 5 1 (.slice a 8 c) 8 ((pkt tag kind).map v8) :: L) := by
  refine Fn.of (N := 13) Try.func44 rfl rfl ?_
  intro Xh
  refine TC.seq ?_
  refine TC.region ?_
  refine TL.val rfl rfl rfl (Y.assign rfl rfl) ?_
  refine TL.nil ?_
  refine TQ.next ?_
  refine TC.seq ?_
  refine TC.region ?_
  refine TL.eff rfl rfl rfl (X.alloc rfl zc85) ?_
  rintro _ _ ⟨b5, rfl, rfl⟩
  refine TL.nil ?_
  refine TQ.to (wr.mk0 (b := b5)) ?_
  refine TQ.next ?_
  refine TC.seq ?_
  refine TC.region ?_
  refine TL.val rfl rfl rfl (Y.move rfl rfl) ?_
  refine TL.eff rfl rfl rfl (X.call rfl Try.func45 (by kernel_rfl) rfl rfl (Fn.preE (by repeat first | (with_reducible apply Ent.refl) | (apply Ent.cons; case h => first | (with_reducible (repeat first | apply Pull.here | apply Pull.there); done) | (repeat first | apply Pull.here | apply Pull.there))) (wr.U32_fn _ _ _ (by first | omega | (simp only [List.length_append, List.length_nil, List.length_cons, wr.be16_len, wr.be32_len]; omega) | (simp only [List.length_append, List.length_nil, List.length_cons, wr.be16_len, wr.be32_len, r1.be2_len, r1.be4_len]; omega) | (simp; omega)) _))) ?_
  rintro _ _ ⟨rfl, rfl⟩
  refine TL.nil ?_
  refine TQ.next ?_
  refine TC.seq ?_
  refine TC.region ?_
  refine TL.val rfl rfl rfl (Y.move rfl rfl) ?_
  refine TL.val rfl rfl rfl (Y.conv rfl Try.underlying5 Try.underlying22 rfl (cv_8_32)) ?_
  refine TL.val rfl rfl rfl (Y.bin rfl rfl rfl (br_shl32 (n := 24))) ?_
  refine TL.eff rfl rfl rfl (X.call rfl Try.func45 (by kernel_rfl) rfl rfl (Fn.preE (by repeat first | (with_reducible apply Ent.refl) | (apply Ent.cons; case h => first | (with_reducible (repeat first | apply Pull.here | apply Pull.there); done) | (repeat first | apply Pull.here | apply Pull.there))) (wr.U32_fn _ _ _ (by first | omega | (simp only [List.length_append, List.length_nil, List.length_cons, wr.be16_len, wr.be32_len]; omega) | (simp only [List.length_append, List.length_nil, List.length_cons, wr.be16_len, wr.be32_len, r1.be2_len, r1.be4_len]; omega) | (simp; omega)) _))) ?_
  rintro _ _ ⟨rfl, rfl⟩
  refine TL.nil ?_
  refine TQ.next ?_
  refine TC.seq ?_
  refine TC.open pul ?_
  rintro ⟨a, c⟩
  refine TC.split pul ?_
  refine TC.region ?_
  refine TL.val rfl rfl rfl (Y.load rfl sc85 rfl celD) ?_
  refine TL.val rfl rfl rfl (Y.assign rfl rfl) ?_
  refine TL.nil ?_
  refine TQ.next ?_
  refine TC.ret ?_
  refine TQ.retE (res1 rfl rfl) (⟨_, _, rfl, rfl⟩) ?_
  exact ett
end ac
end Go.Proofs.Ytomplpdeeomehaa

/- assoc: New, cookies, data packets, Start, Abort, walked. -/
namespace Go.Proofs.Ytomplpdeeomehaa
set_option linter.unusedVariables false
set_option linter.unusedSimpArgs false
open Go.RowKit
namespace ac
open wr (be16 be32)
namespace FxAsB
set_option maxRecDepth 100000
theorem fo68_0 : Program.fieldOff Try.prog 68 0 = some 0 := by kernel_rfl
theorem fo68_1 : Program.fieldOff Try.prog 68 1 = some 1 := by kernel_rfl
theorem fo68_2 : Program.fieldOff Try.prog 68 2 = some 2 := by kernel_rfl
theorem pl68 : Program.places Try.prog 68 = some [(0, 1), (1, 1), (2, 1), (3, 1), (4, 1), (5, 1), (6, 1), (7, 1), (8, 1), (9, 1), (10, 1), (11, 1), (12, 4), (16, 1)] := by kernel_rfl
theorem sc22 : Program.isSc Try.prog 22 = true := by kernel_rfl
theorem sc23 : Program.isSc Try.prog 23 = true := by kernel_rfl
theorem sc85 : Program.isSc Try.prog 85 = true := by kernel_rfl
theorem sz22 : (Try.prog.info? 22).map (·.size) = some 1 := by kernel_rfl
theorem sz5 : (Try.prog.info? 5).map (·.size) = some 1 := by kernel_rfl
theorem zc100 : Program.zeroC Try.prog 100 = some ((List.replicate 4 (0 : UInt32)).map v32).toArray := by kernel_rfl
theorem zc101 : Program.zeroC Try.prog 101 = some ((List.replicate 20 (0 : UInt8)).map v8).toArray := by kernel_rfl
theorem zc68 : Program.zeroC Try.prog 68 = some #[.int .u32 0, .int .u32 0, .slice none 0 0, .int .i64 0, .bool false, .int .u32 0, .int .u32 0, .map none, .int .u32 0, .slice none 0 0, .int .i64 0, .int .i64 0, .bool false, .int .i64 0, .int .i64 0, .int .i64 0, .slice none 0 0] := by kernel_rfl
theorem zc85 : Program.zeroC Try.prog 85 = some #[.slice none 0 0] := by kernel_rfl
end FxAsB
open FxAsB
section
variable {P : Program} {N : Nat} {F : FE} {As L : List SA} {o : Oper} {x y : Operand}
theorem Y.maxK {k : IntKind} {m n : Int} {at' : Array TypeId} (ho : o.op = .call { callee := .builtin .max, args := #[x, y], argTypes := at' }) (hx : evO F x = some (.int k m)) (hy : evO F y = some (.int k n)) : Yld P N o F As (.int k (max m n)) := fun a w ha hw => by
  unfold execOp; rw [ho]
  replace hx := ha.eval hx
  replace hy := ha.eval hy
  generalize a.eval = ρ at hx hy ⊢
  simp [resolve, invoke, builtin, hx, hy, Builtin.max_, Builtin.max2, Result.andThen, Oper.upon, go_sem]
  split <;> omega
end
theorem readsBlk {b T n : Nat} {l : List UInt8} (hn : l.length = n) (hm : n ≤ maxLen) : Reads (SA.blk b (l.map v8).toArray T) 1 (.slice (some ⟨b, 0, none⟩) n n) n (l.map v8) := fun w O R h => by
  subst hn
  refine ⟨by simp, one8, some ⟨b, 0, none⟩, l.length, rfl, Nat.le_refl _, hm, by simp, ?_⟩
  intro p hp j u hu
  cases hp
  rw [Addr.add_lit, h.2.cell]
  simpa using hu
theorem macO_fn (ka : Option Addr) (kn kc : Nat) (key : List UInt8) (hk : key.length = kn) (a : Option Addr) (n cap : Nat) (b : List UInt8) (hn : b.length = n) (h1 : kn ≤ 140737488351232) (h2 : n ≤ 140737488351232) (L : List SA) :
    Fn Try.prog 54 [.slice ka kn kc, .slice a n cap] (SA.rds 1 (.slice ka kn kc) kn (key.map v8) :: SA.owns 5 1 (.slice a n cap) n (b.map v8) :: L)
      (fun v L' => v = .agg ((sha.mac key b).map v8).toArray ∧ L' = SA.rds 1 (.slice ka kn kc) kn (key.map v8) :: SA.owns 5 1 (.slice a n cap) n (b.map v8) :: L) :=
  Fn.lend0 (Lend.cons Lend1.rds (Lend.cons Lend1.own Lend.nil)) (sha.mac_fn ka kn kc key hk a n cap b hn (by omega) (by omega) []) L
def tagOf (t : UInt32) : UInt32 := if t = 0 then 1 else t
theorem tagOf_v (t : UInt32) : Value.int .u32 (max (t.toNat : Int) 1) = v32 (tagOf t) := by
  unfold tagOf
  by_cases h : t = 0
  · subst h; rfl
  · rw [if_neg h]
    have : t.toNat ≠ 0 := fun e => h (UInt32.toNat_inj.1 (by simpa using e))
    rw [v32, show max (t.toNat : Int) 1 = t.toNat by omega]
def newS (tag tsn : UInt32) (secret : List UInt8) : AS Msg := { tag := tagOf tag, first := tsn, secret := secret, state := 0, known := false, other := 0, top := 0, kept := fun _ => none, base := tsn, queue := [], sent := 0, clock := 0, tset := false, moment := 0, delay := 0, fires := 0, shake := [] }
--REG rostrum/assoc.New : _ _ ⟨b{d}, p{d}, rfl, rfl⟩ => (ac.New_fn _ _ _ _ _ _ (by first | assumption | rfl) (by omega) _)
theorem New_fn (tag tsn : UInt32) (a : Option Addr) (n cap : Nat) (secret : List UInt8) (hn : secret.length = n) (hs : n ≤ 140737488351232) (L : List SA) :
    Fn Try.prog 11 [v32 tag, v32 tsn, .slice a n cap] (SA.rds 1 (.slice a n cap) n (secret.map v8) :: L)
      (fun v L' => ∃ b p, v = pt b 0 ∧ L' = aB b p (newS tag tsn secret) :: aS p (newS tag tsn secret) :: aM p (newS tag tsn secret) :: aQ p (newS tag tsn secret) :: aD (newS tag tsn secret) :: aH p (newS tag tsn secret) :: SA.rds 1 (.slice a n cap) n (secret.map v8) :: L) := by
  subst hn
  refine Fn.of (N := 16) Try.func11 rfl rfl ?_
  intro Xh
  refine TC.seq ?_
  refine TC.region ?_
  refine TL.val rfl rfl rfl (Y.assign rfl rfl) ?_
  refine TL.nil ?_
  refine TQ.next ?_
  refine TC.seq ?_
  refine TC.region ?_
  refine TL.val rfl rfl rfl (Y.move rfl rfl) ?_
  refine TL.val rfl rfl rfl (Y.maxK (n := 1) rfl rfl rfl) ?_
  refine TL.as (v32 (tagOf tag)) (by exact tagOf_v tag) ?_
  refine TL.val rfl rfl rfl (Y.move rfl rfl) ?_
  refine TL.val rfl rfl rfl (Y.move rfl rfl) ?_
  refine TL.val rfl rfl rfl (Y.move rfl rfl) ?_
  refine TL.eff rfl rfl rfl (X.call rfl Try.func25 (by kernel_rfl) rfl rfl (Fn.preE (by repeat first | (with_reducible apply Ent.refl) | (apply Ent.cons; case h => first | (with_reducible (repeat first | apply Pull.here | apply Pull.there); done) | (repeat first | apply Pull.here | apply Pull.there))) (rd.Clone_fn _ _ _ _ (by first | assumption | rfl) (by omega) _))) ?_
  rintro _ _ ⟨a12, c12, rfl, rfl⟩
  refine TL.eff rfl rfl rfl (X.makeMap (β := Msg) rfl) ?_
  rintro _ _ ⟨b13, rfl, rfl⟩
  refine TL.val rfl rfl rfl (Y.buildS (cells := asC ⟨a12, c12, b13, none, 0, none, 0⟩ (newS tag tsn secret)) rfl rfl pl68 zc68 (by kernel_rfl)) ?_
  refine TL.eff rfl rfl rfl (X.boxA rfl rfl) ?_
  rintro _ _ ⟨b15, rfl, rfl⟩
  refine TL.val rfl rfl rfl (Y.assign rfl rfl) ?_
  refine TL.nil ?_
  refine TQ.next ?_
  refine TC.ret ?_
  refine TQ.retE (res1 rfl rfl) (⟨b15, ⟨a12, c12, b13, none, 0, none, 0⟩, rfl, rfl⟩) ?_
  exact (Ent.trans ((Pull.ent (A := SA.owns 5 1 (.slice a12 secret.length c12) secret.length (secret.map v8)) pul).trans Ent.freeze) (Ent.trans (Ent.nilOwn 82 4) (Ent.trans Ent.rdss0 (Ent.trans ((Ent.nilOwn 0 1).trans Ent.freeze) ett))))
/-- what a cookie says -/
def ckB {μ : Type} (S : AS μ) (tag tsn : UInt32) : List UInt8 := be32 tag ++ be32 tsn ++ be32 S.tag ++ be32 S.first
def cookieB {μ : Type} (S : AS μ) (tag tsn : UInt32) : List UInt8 := ckB S tag tsn ++ sha.mac S.secret (ckB S tag tsn)
theorem cookieB_len {μ : Type} (S : AS μ) (tag tsn : UInt32) : (cookieB S tag tsn).length = 36 := by rw [cookieB, List.length_append, sha.mac_len]; rfl
theorem flat_len4 (l : List UInt32) : (l.flatMap be32).length = 4 * l.length := by
  induction l with
  | nil => rfl
  | cons x l ih => rw [List.flatMap_cons, List.length_append, ih]; simp [be32]; omega
theorem flat4 (l : List UInt32) (k : Nat) (x : UInt32) (h : l[k]? = some x) : (l.take k).flatMap be32 ++ be32 x = (l.take (k + 1)).flatMap be32 := by rw [List.take_add_one, h, List.flatMap_append]; simp
set_option maxHeartbeats 1000000 in
--REG (*rostrum/assoc.Assoc).cookie : _ _ ⟨a{d}, c{d}, rfl, rfl⟩ => (ac.cookie_fn _ _ _ {1} {2} (by assumption) _)
theorem cookie_fn (b : Nat) (p : AP) (S : AS Msg) (tag tsn : UInt32) (hs : S.secret.length ≤ 140737488351232) (L : List SA) :
    Fn Try.prog 49 [pt b 0, v32 tag, v32 tsn] (aB b p S :: aS p S :: L) (fun v L' => ∃ a c, v = .slice a 36 c ∧ L' = SA.owns 5 1 (.slice a 36 c) 36 ((cookieB S tag tsn).map v8) :: aB b p S :: aS p S :: L) := by
  refine Fn.of (N := 37) Try.func49 rfl rfl ?_
  intro Xh
  refine TC.seq ?_
  refine TC.region ?_
  refine TL.val rfl rfl rfl (Y.assign rfl rfl) ?_
  refine TL.nil ?_
  refine TQ.next ?_
  refine TC.seq ?_
  refine TC.region ?_
  refine TL.eff rfl rfl rfl (X.alloc rfl zc85) ?_
  rintro _ _ ⟨b7, rfl, rfl⟩
  refine TL.nil ?_
  refine TQ.to (wr.mk0 (b := b7)) ?_
  refine TQ.next ?_
  refine TC.seq ?_
  refine TC.seq ?_
  refine TC.draws 12 _ (by kernel_rfl) (by kernel_rfl) (fun _ h => h) ?_
  refine TA.take 0 rfl rfl rfl rfl (by kernel_rfl) (by kernel_rfl) (by kernel_rfl) rfl (by kernel_rfl) (by kernel_rfl) (fun _ _ _ h => h) (Y.move rfl rfl) ?_
  refine TA.take 1 rfl rfl rfl rfl (by kernel_rfl) (by kernel_rfl) (by kernel_rfl) rfl (by kernel_rfl) (by kernel_rfl) (fun _ _ _ h => h) (Y.move rfl rfl) ?_
  refine TA.take 2 rfl rfl rfl rfl (by kernel_rfl) (by kernel_rfl) (by kernel_rfl) rfl (by kernel_rfl) (by kernel_rfl) (fun _ _ _ h => h) (Y.move rfl rfl) ?_
  refine TA.take 3 rfl rfl rfl rfl (by kernel_rfl) (by kernel_rfl) (by kernel_rfl) rfl (by kernel_rfl) (by kernel_rfl) (fun _ _ _ h => h) (Y.nilCheck rfl rfl) ?_
  refine TA.take 4 rfl rfl rfl rfl (by kernel_rfl) (by kernel_rfl) (by kernel_rfl) rfl (by kernel_rfl) (by kernel_rfl) (fun _ _ _ h => h) (by first | exact Y.fieldAddrJ rfl fo68_0 rfl nqq | exact Y.fieldAddr rfl fo68_0 rfl nqq) ?_
  refine TA.take 5 rfl rfl rfl rfl (by kernel_rfl) (by kernel_rfl) (by kernel_rfl) rfl (by kernel_rfl) (by kernel_rfl) (fun _ _ _ h => h) (Y.load rfl sc22 rfl cel32) ?_
  refine TA.as (v32 S.tag) (by rfl) ?_
  refine TA.take 6 rfl rfl rfl rfl (by kernel_rfl) (by kernel_rfl) (by kernel_rfl) rfl (by kernel_rfl) (by kernel_rfl) (fun _ _ _ h => h) (Y.move rfl rfl) ?_
  refine TA.take 7 rfl rfl rfl rfl (by kernel_rfl) (by kernel_rfl) (by kernel_rfl) rfl (by kernel_rfl) (by kernel_rfl) (fun _ _ _ h => h) (Y.nilCheck rfl rfl) ?_
  refine TA.take 8 rfl rfl rfl rfl (by kernel_rfl) (by kernel_rfl) (by kernel_rfl) rfl (by kernel_rfl) (by kernel_rfl) (fun _ _ _ h => h) (by first | exact Y.fieldAddrJ rfl fo68_1 rfl nqq | exact Y.fieldAddr rfl fo68_1 rfl nqq) ?_
  refine TA.take 9 rfl rfl rfl rfl (by kernel_rfl) (by kernel_rfl) (by kernel_rfl) rfl (by kernel_rfl) (by kernel_rfl) (fun _ _ _ h => h) (Y.load rfl sc22 rfl cel32) ?_
  refine TA.as (v32 S.first) (by rfl) ?_
  refine TA.take 10 rfl rfl rfl rfl (by kernel_rfl) (by kernel_rfl) (by kernel_rfl) rfl (by kernel_rfl) (by kernel_rfl) (fun _ _ _ h => h) (Y.buildM rfl rfl Try.underlying100 sz22 zc100 rfl rfl rfl (by first | exact (by simp only [List.all_cons, List.all_nil, Value.oneCell', Bool.and_self]) | rfl)) ?_
  refine TA.as (.agg (([tag, tsn, S.tag, S.first] : List UInt32).map v32).toArray) (by rfl) ?_
  refine TA.take 11 rfl rfl rfl rfl (by kernel_rfl) (by kernel_rfl) (by kernel_rfl) rfl (by kernel_rfl) (by kernel_rfl) (fun _ _ _ h => h) (Y.move rfl rfl) ?_
  refine TA.done (by kernel_rfl) ?_
  refine TQ.next ?_
  refine TC.block ?_
  refine TC.loopF (ι := Nat) [] (fun k => k ≤ 4) (fun k => [(22, some (vN k))]) (fun k => [wr.W b7 ((([tag, tsn, S.tag, S.first] : List UInt32).take k).flatMap be32)]) (fun k => 4 - k) (0) (by omega) ⟨rfl, trivial⟩ (Pulls.cons pul Pulls.nil) ?_
  rintro k hk F' L' rfl hL'
  simp only [List.cons_append, List.nil_append] at hL'
  subst hL'
  refine TC.seq ?_
  refine TC.region ?_
  refine TL.val rfl rfl rfl (Y.bin rfl rfl rfl (br_ltN (n := 4))) ?_
  refine TL.nil ?_
  refine TQ.next ?_
  refine TC.seq ?_
  refine TC.cond rfl (fun c0 => ?_) (fun c0 => ?_)
  · try simp only [decide_eq_true_eq, decide_eq_false_iff_not, Bool.not_eq_true', Bool.not_eq_false', Bool.and_eq_true, Bool.or_eq_true, Nat.not_lt, Nat.not_le, beq_iff_eq, bne_iff_ne] at c0
    refine TC.skip ?_
    refine TQ.next ?_
    refine TC.seq ?_
    refine TC.block ?_
    refine TC.seq ?_
    obtain ⟨x, hx, -⟩ := getS (l := ([tag, tsn, S.tag, S.first] : List UInt32)) (i := k) (by show k < 4; omega)
    refine TC.region ?_
    refine TL.val rfl rfl rfl (Y.indexAgg rfl Try.underlying100 sc22 sz22 rfl rfl (by omega) (by first | exact getM (d := (0 : UInt32)) lnn | rfl)) ?_
    refine TL.as (v32 x) (by (rw [List.getD_eq_getElem?_getD, hx]; rfl)) ?_
    refine TL.val rfl rfl rfl (Y.assign rfl rfl) ?_
    refine TL.nil ?_
    refine TQ.next ?_
    refine TC.region ?_
    refine TL.val rfl rfl rfl (Y.move rfl rfl) ?_
    refine TL.eff rfl rfl rfl (X.call rfl Try.func45 (by kernel_rfl) rfl rfl (Fn.preE (by repeat first | (with_reducible apply Ent.refl) | (apply Ent.cons; case h => first | (with_reducible (repeat first | apply Pull.here | apply Pull.there); done) | (repeat first | apply Pull.here | apply Pull.there))) (wr.U32_fn b7 x _ (by rw [flat_len4, List.length_take]; show 4 * min k 4 ≤ _; omega) _))) ?_
    rintro _ _ ⟨rfl, rfl⟩
    rw [flat4 _ k x hx]
    refine TL.nil ?_
    refine TQ.block_normal ?_
    refine TQ.next ?_
    refine TC.region ?_
    refine TL.val rfl rfl rfl (Y.bin rfl rfl rfl (br_addN (n := 1) (by omega))) ?_
    refine TL.val rfl rfl rfl (Y.move rfl rfl) ?_
    refine TL.nil ?_
    refine TQ.loopF (k + 1) (by omega) (by omega) ⟨rfl, trivial⟩ (by (repeat first | apply Grow.refl | apply Grow.step | apply Grow.app)) ?_ ?_ ?_
    · kernel_rfl
    · rfl
    · simp only [List.cons_append, List.nil_append]
      exact ett
  · try simp only [decide_eq_true_eq, decide_eq_false_iff_not, Bool.not_eq_true', Bool.not_eq_false', Bool.and_eq_true, Bool.or_eq_true, Nat.not_lt, Nat.not_le, beq_iff_eq, bne_iff_ne] at c0
    obtain rfl : k = 4 := by omega
    rw [show (([tag, tsn, S.tag, S.first] : List UInt32).take 4).flatMap be32 = ckB S tag tsn by simp [ckB]]
    refine TC.exit ?_
    refine TQ.then_exit ?_
    refine TQ.then_exit ?_
    refine TQ.block_exit ?_
    refine TQ.next ?_
    refine TC.cutF (ι := Nat) [] (fun _ => True) (fun i => [(10, some (pt i 0))]) (fun i => [SA.blk i ((sha.mac S.secret (ckB S tag tsn)).map v8).toArray 101]) (Ao := []) Pulls.nil ?_ ?_
    · rintro L' hL'
      simp only [List.cons_append, List.nil_append] at hL'
      subst hL'
      refine TC.open pul ?_
      rintro ⟨wa, wc⟩
      refine TC.split pul ?_
      refine TC.draws 7 [aB b p S, SA.blk b7 #[.slice wa (ckB S tag tsn).length wc] 85] (by kernel_rfl) (by kernel_rfl) (by repeat first | exact holds_nil | refine holds_cons inn ?_) ?_
      refine TA.take 0 rfl rfl rfl rfl (by kernel_rfl) (by kernel_rfl) (by kernel_rfl) rfl (by kernel_rfl) (by kernel_rfl) (fun _ _ _ h => h) (Y.move rfl rfl) ?_
      refine TA.take 1 rfl rfl rfl rfl (by kernel_rfl) (by kernel_rfl) (by kernel_rfl) rfl (by kernel_rfl) (by kernel_rfl) (fun _ _ _ h => h) (Y.nilCheck rfl rfl) ?_
      refine TA.take 2 rfl rfl rfl rfl (by kernel_rfl) (by kernel_rfl) (by kernel_rfl) rfl (by kernel_rfl) (by kernel_rfl) (fun _ _ _ h => h) (by first | exact Y.fieldAddrJ rfl fo68_2 rfl nqq | exact Y.fieldAddr rfl fo68_2 rfl nqq) ?_
      refine TA.take 3 rfl rfl rfl rfl (by kernel_rfl) (by kernel_rfl) (by kernel_rfl) rfl (by kernel_rfl) (by kernel_rfl) (fun _ _ _ h => h) (Y.load rfl sc23 rfl celD) ?_
      refine TA.as (.slice p.sa S.secret.length p.sc) (by rfl) ?_
      refine TA.take 4 rfl rfl rfl rfl (by kernel_rfl) (by kernel_rfl) (by kernel_rfl) rfl (by kernel_rfl) (by kernel_rfl) (fun _ _ _ h => h) (Y.load rfl sc85 rfl celD) ?_
      refine TA.any (rs := [5, 6]) (by kernel_rfl) (by simp) ?_
      simp only [List.forall_mem_cons, List.not_mem_nil, false_implies, implies_true, and_true]
      refine ⟨?_, ?_⟩
      · skip
        refine TAo.eff rfl rfl rfl rfl (X.call rfl Try.func54 (by kernel_rfl) rfl rfl (Fn.preE (by repeat first | (with_reducible apply Ent.refl) | (apply Ent.cons; case h => first | (with_reducible (repeat first | apply Pull.here | apply Pull.there); done) | (repeat first | apply Pull.here | apply Pull.there))) (macO_fn _ _ _ S.secret rfl _ _ _ (ckB S tag tsn) rfl hs (by show 16 ≤ _; omega) _))) ?_
        rintro _ _ ⟨rfl, rfl⟩
        refine ⟨(Or.inr (by repeat first | exact holds_nil | refine holds_cons inn ?_)), ?_⟩
        refine TA.one 6 (by kernel_rfl) rfl rfl rfl rfl (X.alloc rfl zc101) ?_
        rintro _ _ ⟨b10, rfl, rfl⟩
        refine ⟨(Or.inr (by repeat first | exact holds_nil | refine holds_cons inn ?_)), ?_⟩
        refine TA.one0 7 (by kernel_rfl) rfl rfl rfl (X.storeAll rfl (by kernel_rfl) (by rw [List.size_toArray, List.length_map, sha.mac_len]) rfl rfl (fun v hv => one8 v (by simpa using hv)) pul (by simp [sha.mac_len])) ?_
        rintro _ _ rfl
        refine ⟨(Or.inl (by kernel_rfl)), ?_⟩
        refine TA.done (by kernel_rfl) ?_
        refine TQ.to (wr.put (b := b7) pul (by rfl) pul (l := ckB S tag tsn) rfl rfl Ent.refl) ?_
        refine TQ.meetF (b10) (trivial) ⟨rfl, trivial⟩ (by (repeat first | apply Grow.refl | apply Grow.step | apply Grow.app)) ?_ ?_
        · kernel_rfl
        · simp only [List.cons_append, List.nil_append]
          exact ett
      · skip
        refine TAo.eff rfl rfl rfl rfl (X.alloc rfl zc101) ?_
        rintro _ _ ⟨b10, rfl, rfl⟩
        refine ⟨(Or.inr (by repeat first | exact holds_nil | refine holds_cons inn ?_)), ?_⟩
        refine TA.one 5 (by kernel_rfl) rfl rfl rfl rfl (X.call rfl Try.func54 (by kernel_rfl) rfl rfl (Fn.preE (by repeat first | (with_reducible apply Ent.refl) | (apply Ent.cons; case h => first | (with_reducible (repeat first | apply Pull.here | apply Pull.there); done) | (repeat first | apply Pull.here | apply Pull.there))) (macO_fn _ _ _ S.secret rfl _ _ _ (ckB S tag tsn) rfl hs (by show 16 ≤ _; omega) _))) ?_
        rintro _ _ ⟨rfl, rfl⟩
        refine ⟨(Or.inr (by repeat first | exact holds_nil | refine holds_cons inn ?_)), ?_⟩
        refine TA.one0 7 (by kernel_rfl) rfl rfl rfl (X.storeAll rfl (by kernel_rfl) (by rw [List.size_toArray, List.length_map, sha.mac_len]) rfl rfl (fun v hv => one8 v (by simpa using hv)) pul (by simp [sha.mac_len])) ?_
        rintro _ _ rfl
        refine ⟨(Or.inl (by kernel_rfl)), ?_⟩
        refine TA.done (by kernel_rfl) ?_
        refine TQ.to (wr.put (b := b7) pul (by rfl) pul (l := ckB S tag tsn) rfl rfl Ent.refl) ?_
        refine TQ.meetF (b10) (trivial) ⟨rfl, trivial⟩ (by (repeat first | apply Grow.refl | apply Grow.step | apply Grow.app)) ?_ ?_
        · kernel_rfl
        · simp only [List.cons_append, List.nil_append]
          exact ett
    · rintro b10 - F' L' rfl hL'
      simp only [List.cons_append, List.nil_append] at hL'
      subst hL'
      refine TC.seq ?_
      refine TC.region ?_
      refine TL.val rfl rfl rfl (Y.sliceArr rfl Try.underlying101 sz5 rfl) ?_
      refine TL.eff rfl rfl rfl (X.call rfl Try.func48 (by kernel_rfl) rfl rfl (Fn.preE (by repeat first | (with_reducible apply Ent.refl) | (apply Ent.cons; case h => first | (with_reducible (repeat first | apply Pull.here | apply Pull.there); done) | (repeat first | apply Pull.here | apply Pull.there))) (wr.Bytes_fn (SA.blk b10 ((sha.mac S.secret (ckB S tag tsn)).map v8).toArray 101) b7 20 (some ⟨b10, 0, none⟩) 20 _ (sha.mac S.secret (ckB S tag tsn)) (readsBlk (sha.mac_len _ _) (by decide)) (sha.mac_len _ _) (by show 16 + 20 ≤ _; omega) _))) ?_
      rintro _ _ ⟨rfl, rfl⟩
      rw [show ckB S tag tsn ++ sha.mac S.secret (ckB S tag tsn) = cookieB S tag tsn from rfl]
      refine TL.nil ?_
      refine TQ.next ?_
      refine TC.seq ?_
      refine TC.open pul ?_
      rintro ⟨wa2, wc2⟩
      refine TC.split pul ?_
      rw [cookieB_len]
      refine TC.region ?_
      refine TL.val rfl rfl rfl (Y.load rfl sc85 rfl celD) ?_
      refine TL.val rfl rfl rfl (Y.assign rfl rfl) ?_
      refine TL.nil ?_
      refine TQ.next ?_
      refine TC.ret ?_
      refine TQ.retE (res1 rfl rfl) (⟨_, _, rfl, rfl⟩) ?_
      exact ett
end ac
end Go.Proofs.Ytomplpdeeomehaa

/- assoc: copies, data packets, Start, Abort, walked. -/
namespace Go.Proofs.Ytomplpdeeomehaa
set_option linter.unusedVariables false
set_option linter.unusedSimpArgs false
open Go.RowKit
namespace ac
open wr (be16 be32)
namespace FxAsC
set_option maxRecDepth 100000
theorem ag51 : Program.aggN Try.prog 51 = some 3 := by kernel_rfl
theorem fo51_0 : Program.fieldOff Try.prog 51 0 = some 0 := by kernel_rfl
theorem fo51_1 : Program.fieldOff Try.prog 51 1 = some 1 := by kernel_rfl
theorem fo51_2 : Program.fieldOff Try.prog 51 2 = some 2 := by kernel_rfl
theorem fo66_0 : Program.fieldOff Try.prog 66 0 = some 0 := by kernel_rfl
theorem fo68_0 : Program.fieldOff Try.prog 68 0 = some 0 := by kernel_rfl
theorem fo68_1 : Program.fieldOff Try.prog 68 1 = some 1 := by kernel_rfl
theorem fo68_11 : Program.fieldOff Try.prog 68 11 = some 11 := by kernel_rfl
theorem fo68_12 : Program.fieldOff Try.prog 68 12 = some 12 := by kernel_rfl
theorem fo68_13 : Program.fieldOff Try.prog 68 13 = some 16 := by kernel_rfl
theorem fo68_3 : Program.fieldOff Try.prog 68 3 = some 3 := by kernel_rfl
theorem fo68_4 : Program.fieldOff Try.prog 68 4 = some 4 := by kernel_rfl
theorem fo68_5 : Program.fieldOff Try.prog 68 5 = some 5 := by kernel_rfl
theorem fo68_8 : Program.fieldOff Try.prog 68 8 = some 8 := by kernel_rfl
theorem fo68_9 : Program.fieldOff Try.prog 68 9 = some 9 := by kernel_rfl
theorem fo82_0 : Program.fieldOff Try.prog 82 0 = some 0 := by kernel_rfl
theorem sc2 : Program.isSc Try.prog 2 = true := by kernel_rfl
theorem sc22 : Program.isSc Try.prog 22 = true := by kernel_rfl
theorem sc23 : Program.isSc Try.prog 23 = true := by kernel_rfl
theorem sc3 : Program.isSc Try.prog 3 = true := by kernel_rfl
theorem sc4 : Program.isSc Try.prog 4 = true := by kernel_rfl
theorem sc40 : Program.isSc Try.prog 40 = true := by kernel_rfl
theorem sc64 : Program.isSc Try.prog 64 = true := by kernel_rfl
theorem sc85 : Program.isSc Try.prog 85 = true := by kernel_rfl
theorem sl64 : Program.slI Try.prog 64 = some 4 := by kernel_rfl
theorem sz85 : (Try.prog.info? 85).map (·.size) = some 1 := by kernel_rfl
theorem zc51 : Program.zeroC Try.prog 51 = some #[.int .u16 0, .int .u32 0, .slice none 0 0] := by kernel_rfl
theorem zc85 : Program.zeroC Try.prog 85 = some #[.slice none 0 0] := by kernel_rfl
end FxAsC
open FxAsC
abbrev PM := UInt16 × UInt32 × List UInt8
def pm (m : Msg) : PM := (m.1, m.2.1, m.2.2.l)
def msC (st : UInt16) (kd : UInt32) (s : Value) : Array Value := #[v16 st, v32 kd, s]
--REG (rostrum/assoc.Message).copy : _ _ ⟨a{d}, c{d}, rfl, rfl⟩ => (ac.copy_fn _ _ _ _ _ _ (by first | assumption | rfl) (by omega) _)
theorem copy_fn (st : UInt16) (kd : UInt32) (a : Option Addr) (n cap : Nat) (l : List UInt8) (hn : l.length = n) (hl : n ≤ 140737488351232) (L : List SA) :
    Fn Try.prog 41 [.agg (msC st kd (.slice a n cap))] (SA.rds 1 (.slice a n cap) n (l.map v8) :: L)
      (fun v L' => ∃ a' c', v = .agg (msC st kd (.slice a' n c')) ∧ L' = SA.owns 5 1 (.slice a' n c') n (l.map v8) :: SA.rds 1 (.slice a n cap) n (l.map v8) :: L) := by
  refine Fn.of (N := 8) Try.func41 rfl rfl ?_
  intro Xh
  refine TC.seq ?_
  refine TC.region ?_
  refine TL.eff rfl rfl rfl (X.boxA rfl rfl) ?_
  rintro _ _ ⟨b1, rfl, rfl⟩
  refine TL.eff rfl rfl rfl (X.alloc rfl zc51) ?_
  rintro _ _ ⟨b2, rfl, rfl⟩
  refine TL.nil ?_
  refine TQ.next ?_
  refine TC.seq ?_
  refine TC.region ?_
  refine TL.val rfl rfl rfl (by first | exact Y.fieldAddrJ rfl fo51_2 rfl nqq | exact Y.fieldAddr rfl fo51_2 rfl nqq) ?_
  refine TL.val rfl rfl rfl (Y.load rfl sc23 rfl celD) ?_
  refine TL.as (.slice a n cap) (by rfl) ?_
  refine TL.eff rfl rfl rfl (X.call rfl Try.func25 (by kernel_rfl) rfl rfl (Fn.preE (by repeat first | (with_reducible apply Ent.refl) | (apply Ent.cons; case h => first | (with_reducible (repeat first | apply Pull.here | apply Pull.there); done) | (repeat first | apply Pull.here | apply Pull.there))) (rd.Clone_fn _ _ _ _ (by first | assumption | rfl) (by omega) _))) ?_
  rintro _ _ ⟨a5, c5, rfl, rfl⟩
  refine TL.val rfl rfl rfl (by first | exact Y.fieldAddrJ rfl fo51_2 rfl nqq | exact Y.fieldAddr rfl fo51_2 rfl nqq) ?_
  refine TL.eff0 rfl rfl (X.store (cs' := msC st kd (.slice a5 n c5)) rfl (by kernel_rfl) rfl rfl rfl pul (by show 2 < 3; decide) rfl) ?_
  rintro _ _ rfl
  refine TL.nil ?_
  refine TQ.next ?_
  refine TC.seq ?_
  refine TC.region ?_
  refine TL.val rfl rfl rfl (Y.loadAgg rfl ag51 rfl (Cels.all (cs := msC st kd (.slice a5 n c5)) inn) (by first | rfl | ((try simp only [List.length_map, List.length_set, List.length_replicate]); omega))) ?_
  refine TL.as (.agg (msC st kd (.slice a5 n c5))) (by rfl) ?_
  refine TL.eff0 rfl rfl (X.storeAll rfl (by kernel_rfl) (by rfl) rfl rfl (allOne (by rfl)) pul (by rfl)) ?_
  rintro _ _ rfl
  refine TL.nil ?_
  refine TQ.next ?_
  refine TC.ret ?_
  refine TQ.retE (resC rfl ag51 rfl (Cels.all (cs := msC st kd (.slice a5 n c5)) inn) rfl) (⟨_, _, rfl, rfl⟩) ?_
  exact ett
/-- a data packet -/
def dataB (other tsn : UInt32) (m : PM) : List UInt8 := pkt other 5 ++ be32 tsn ++ be16 m.1 ++ be32 m.2.1 ++ m.2.2
theorem dataB_len (other tsn : UInt32) (m : PM) : (dataB other tsn m).length = 18 + m.2.2.length := by simp [dataB, pkt, be16, be32]; omega
theorem Ent.itemD {S : AS Msg} {L L1 : List SA} {st : UInt16} {kd : UInt32} {bs : Bs} {co : Bool} (h : Pull (aD S) L L1) (hx : (((st, kd, bs), co) : Itm) ∈ S.queue) : Ent L (SA.rds 1 (.slice bs.a bs.l.length bs.cap) bs.l.length (bs.l.map v8) :: aD S :: L1) := by
  refine h.ent.trans ((Ent.rdss_sub (hs := Dat.g bs) fun q hq => List.mem_flatMap.2 ⟨_, hx, ?_⟩).trans ((Ent.bytesOf (s := bs)).trans (Ent.under _ Ent.drop)))
  show q ∈ ([] ++ ([] ++ Dat.g bs)) ++ []
  simpa using hq
set_option maxHeartbeats 1000000 in
theorem data_fn (b : Nat) (p : AP) (S : AS Msg) (i : Nat) (st : UInt16) (kd : UInt32) (bs : Bs) (co : Bool) (hx : S.queue[i]? = some ((st, kd, bs), co)) (hl : bs.l.length ≤ 1099511627700) (L : List SA) :
    Fn Try.prog 43 [pt b 0, vN i] (aB b p S :: aQ p S :: aD S :: L)
      (fun v L' => ∃ a c, v = .slice a (dataB S.other (S.base + UInt32.ofNat i) (st, kd, bs.l)).length c ∧ L' = SA.owns 5 1 (.slice a (dataB S.other (S.base + UInt32.ofNat i) (st, kd, bs.l)).length c) (dataB S.other (S.base + UInt32.ofNat i) (st, kd, bs.l)).length ((dataB S.other (S.base + UInt32.ofNat i) (st, kd, bs.l)).map v8) :: aB b p S :: aQ p S :: aD S :: L) := by
  have hi := (List.getElem?_eq_some_iff.1 hx).1
  refine Fn.of (N := 38) Try.func43 rfl rfl ?_
  intro Xh
  refine TC.know (owns_some (a := p.qa) (n := S.queue.length) inn (by omega)) ?_
  rintro ⟨g, off, hqa⟩
  refine TC.to (Ent.itemD pul (List.mem_of_getElem? hx)) ?_
  refine TC.seq ?_
  refine TC.region ?_
  refine TL.val rfl rfl rfl (Y.assign rfl rfl) ?_
  refine TL.nil ?_
  refine TQ.next ?_
  refine TC.seq ?_
  refine TC.region ?_
  refine TL.val rfl rfl rfl (Y.move rfl rfl) ?_
  refine TL.val rfl rfl rfl (Y.nilCheck rfl rfl) ?_
  refine TL.val rfl rfl rfl (by first | exact Y.fieldAddrJ rfl fo68_9 rfl nqq | exact Y.fieldAddr rfl fo68_9 rfl nqq) ?_
  refine TL.val rfl rfl rfl (Y.load rfl sc64 rfl celD) ?_
  refine TL.as (.slice (some ⟨g, off, none⟩) S.queue.length p.qc) (by (rw [← hqa]; rfl)) ?_
  refine TL.val rfl rfl rfl (Y.move rfl rfl) ?_
  refine TL.val rfl rfl rfl (by first | exact Y.indexSlB rfl sl64 rfl rfl (by omega) nqq | exact Y.indexSl rfl sl64 rfl rfl (by omega) nqq) ?_
  refine TL.val rfl rfl rfl (by first | exact Y.fieldAddrJ rfl fo82_0 rfl nqq | exact Y.fieldAddr rfl fo82_0 rfl nqq) ?_
  refine TL.val rfl rfl rfl (Y.loadAgg rfl ag51 rfl (Cels.pre (Cels.at (A := SA.owns 82 4 (.slice (some ⟨g, off, none⟩) S.queue.length p.qc) S.queue.length (Dat.cs S.queue)) Reads.owns (by rw [← hqa]; exact inn) hx) (l' := [v16 st, v32 kd, .slice bs.a bs.l.length bs.cap]) ⟨_, rfl⟩) (by first | rfl | ((try simp only [List.length_map, List.length_set, List.length_replicate]); omega))) ?_
  refine TL.as (.agg (msC st kd (.slice bs.a bs.l.length bs.cap))) (by rfl) ?_
  refine TL.eff rfl rfl rfl (X.alloc rfl zc51) ?_
  rintro _ _ ⟨b5, rfl, rfl⟩
  refine TL.eff0 rfl rfl (X.storeAll rfl (by kernel_rfl) (by rfl) rfl rfl (allOne (by rfl)) pul (by rfl)) ?_
  rintro _ _ rfl
  refine TL.nil ?_
  refine TQ.next ?_
  refine TC.seq ?_
  refine TC.region ?_
  refine TL.val rfl rfl rfl (Y.move rfl rfl) ?_
  refine TL.val rfl rfl rfl (Y.nilCheck rfl rfl) ?_
  refine TL.val rfl rfl rfl (by first | exact Y.fieldAddrJ rfl fo68_5 rfl nqq | exact Y.fieldAddr rfl fo68_5 rfl nqq) ?_
  refine TL.val rfl rfl rfl (Y.load rfl sc22 rfl cel32) ?_
  refine TL.as (v32 S.other) (by rfl) ?_
  refine TL.eff rfl rfl rfl (X.call rfl Try.func44 (by kernel_rfl) rfl rfl (Fn.preE (by repeat first | (with_reducible apply Ent.refl) | (apply Ent.cons; case h => first | (with_reducible (repeat first | apply Pull.here | apply Pull.there); done) | (repeat first | apply Pull.here | apply Pull.there))) (ac.packet_fn _ 5 _))) ?_
  rintro _ _ ⟨a19, c19, rfl, rfl⟩
  refine TL.eff rfl rfl rfl (X.alloc rfl zc85) ?_
  rintro _ _ ⟨b6, rfl, rfl⟩
  refine TL.eff0 rfl rfl (by first | exact X.store rfl sz85 rfl rfl rfl pul lnn (by first | exact setM | rfl) | exact X.storeOwn rfl sz85 rfl (Nat.zero_add _).symm rfl rfl pul lnn (by first | exact setML | rfl) | exact X.storeOwn rfl sz85 rfl rfl rfl rfl pul lnn (by first | exact setML | rfl)) ?_
  rintro _ _ rfl
  refine TL.nil ?_
  refine TQ.to (wr.put (b := b6) pul (by rfl) pul (l := pkt S.other 5) rfl rfl Ent.refl) ?_
  refine TQ.next ?_
  refine TC.seq ?_
  refine TC.region ?_
  refine TL.val rfl rfl rfl (Y.move rfl rfl) ?_
  refine TL.val rfl rfl rfl (Y.nilCheck rfl rfl) ?_
  refine TL.val rfl rfl rfl (by first | exact Y.fieldAddrJ rfl fo68_8 rfl nqq | exact Y.fieldAddr rfl fo68_8 rfl nqq) ?_
  refine TL.val rfl rfl rfl (Y.load rfl sc22 rfl cel32) ?_
  refine TL.as (v32 S.base) (by rfl) ?_
  refine TL.val rfl rfl rfl (Y.move rfl rfl) ?_
  refine TL.val rfl rfl rfl (Y.conv rfl Try.underlying3 Try.underlying22 rfl cv_N_32) ?_
  refine TL.val rfl rfl rfl (Y.bin rfl rfl rfl (br_add32)) ?_
  refine TL.eff rfl rfl rfl (X.call rfl Try.func45 (by kernel_rfl) rfl rfl (Fn.preE (by repeat first | (with_reducible apply Ent.refl) | (apply Ent.cons; case h => first | (with_reducible (repeat first | apply Pull.here | apply Pull.there); done) | (repeat first | apply Pull.here | apply Pull.there))) (wr.U32_fn b6 (S.base + UInt32.ofNat i) (pkt S.other 5) (by show 8 ≤ _; decide) _))) ?_
  rintro _ _ ⟨rfl, rfl⟩
  refine TL.nil ?_
  refine TQ.next ?_
  refine TC.seq ?_
  refine TC.region ?_
  refine TL.val rfl rfl rfl (by first | exact Y.fieldAddrJ rfl fo51_0 rfl nqq | exact Y.fieldAddr rfl fo51_0 rfl nqq) ?_
  refine TL.val rfl rfl rfl (Y.load rfl sc40 rfl cel16) ?_
  refine TL.as (v16 st) (by rfl) ?_
  refine TL.eff rfl rfl rfl (X.call rfl Try.func53 (by kernel_rfl) rfl rfl (Fn.preE (by repeat first | (with_reducible apply Ent.refl) | (apply Ent.cons; case h => first | (with_reducible (repeat first | apply Pull.here | apply Pull.there); done) | (repeat first | apply Pull.here | apply Pull.there))) (wr.U16_fn b6 st _ (by show 12 ≤ _; decide) _))) ?_
  rintro _ _ ⟨rfl, rfl⟩
  refine TL.nil ?_
  refine TQ.next ?_
  refine TC.seq ?_
  refine TC.region ?_
  refine TL.val rfl rfl rfl (by first | exact Y.fieldAddrJ rfl fo51_1 rfl nqq | exact Y.fieldAddr rfl fo51_1 rfl nqq) ?_
  refine TL.val rfl rfl rfl (Y.load rfl sc22 rfl cel32) ?_
  refine TL.as (v32 kd) (by rfl) ?_
  refine TL.eff rfl rfl rfl (X.call rfl Try.func45 (by kernel_rfl) rfl rfl (Fn.preE (by repeat first | (with_reducible apply Ent.refl) | (apply Ent.cons; case h => first | (with_reducible (repeat first | apply Pull.here | apply Pull.there); done) | (repeat first | apply Pull.here | apply Pull.there))) (wr.U32_fn b6 kd _ (by show 14 ≤ _; decide) _))) ?_
  rintro _ _ ⟨rfl, rfl⟩
  refine TL.nil ?_
  refine TQ.next ?_
  refine TC.seq ?_
  refine TC.region ?_
  refine TL.val rfl rfl rfl (by first | exact Y.fieldAddrJ rfl fo51_2 rfl nqq | exact Y.fieldAddr rfl fo51_2 rfl nqq) ?_
  refine TL.val rfl rfl rfl (Y.load rfl sc23 rfl celD) ?_
  refine TL.as (.slice bs.a bs.l.length bs.cap) (by rfl) ?_
  refine TL.eff rfl rfl rfl (X.call rfl Try.func48 (by kernel_rfl) rfl rfl (Fn.preE (by repeat first | (with_reducible apply Ent.refl) | (apply Ent.cons; case h => first | (with_reducible (repeat first | apply Pull.here | apply Pull.there); done) | (repeat first | apply Pull.here | apply Pull.there))) (wr.BytesR_fn b6 _ _ _ _ bs.l rfl (by show 18 + _ ≤ _; omega) _))) ?_
  rintro _ _ ⟨rfl, rfl⟩
  rw [show pkt S.other 5 ++ be32 (S.base + UInt32.ofNat i) ++ be16 st ++ be32 kd ++ bs.l = dataB S.other (S.base + UInt32.ofNat i) (st, kd, bs.l) from rfl]
  refine TL.nil ?_
  refine TQ.next ?_
  refine TC.seq ?_
  refine TC.open pul ?_
  rintro ⟨wa2, wc2⟩
  refine TC.split pul ?_
  refine TC.region ?_
  refine TL.val rfl rfl rfl (Y.load rfl sc85 rfl celD) ?_
  refine TL.val rfl rfl rfl (Y.assign rfl rfl) ?_
  refine TL.nil ?_
  refine TQ.next ?_
  refine TC.ret ?_
  refine TQ.retE (res1 rfl rfl) (⟨_, _, rfl, rfl⟩) ?_
  exact ett
def initB {μ : Type} (S : AS μ) : List UInt8 := pkt 0 1 ++ be32 S.tag ++ be32 S.first
def AS.started {μ : Type} (S : AS μ) (now : Int) : AS μ := ({ S with clock := max S.clock now, state := 1, shake := initB S } : AS μ).starts
theorem Start_no (b : Nat) (p : AP) (S : AS Msg) (now : Int) (h : S.state ≠ 0) (L : List SA) : Fn Try.prog 23 [pt b 0, vI now] (aB b p S :: L) (fun v L' => v = .tuple #[.slice none 0 0, vN 9] ∧ L' = aB b p S :: L) := by
  refine Fn.of (N := 45) Try.func23 rfl rfl ?_
  intro Xh
  refine TC.seq ?_
  refine TC.region ?_
  refine TL.val rfl rfl rfl (Y.assign rfl rfl) ?_
  refine TL.val rfl rfl rfl (Y.assign rfl rfl) ?_
  refine TL.nil ?_
  refine TQ.next ?_
  refine TC.seq ?_
  refine TC.seq ?_
  refine TC.region ?_
  refine TL.val rfl rfl rfl (Y.move rfl rfl) ?_
  refine TL.val rfl rfl rfl (by first | exact Y.eqNilP rfl Try.underlying26 rfl rfl | exact Y.eqNil0 rfl Try.underlying26 rfl rfl) ?_
  refine TL.nil ?_
  refine TQ.next ?_
  refine TC.cond_f rfl ?_
  refine TC.skip ?_
  refine TQ.next ?_
  refine TC.seq ?_
  refine TC.seq ?_
  refine TC.region ?_
  refine TL.val rfl rfl rfl (Y.move rfl rfl) ?_
  refine TL.val rfl rfl rfl (Y.nilCheck rfl rfl) ?_
  refine TL.val rfl rfl rfl (by first | exact Y.fieldAddrJ rfl fo68_3 rfl nqq | exact Y.fieldAddr rfl fo68_3 rfl nqq) ?_
  refine TL.val rfl rfl rfl (Y.load rfl sc3 rfl celN) ?_
  refine TL.as (vN S.state) (by rfl) ?_
  refine TL.val rfl rfl rfl (Y.bin rfl rfl rfl (br_neN (n := 0))) ?_
  refine TL.is true (by simpa using h) ?_
  refine TL.nil ?_
  refine TQ.next ?_
  refine TC.cond_t rfl ?_
  refine TC.seq ?_
  refine TC.region ?_
  refine TL.val rfl rfl rfl (Y.assign rfl rfl) ?_
  refine TL.val rfl rfl rfl (Y.assign rfl rfl) ?_
  refine TL.nil ?_
  refine TQ.next ?_
  refine TC.ret ?_
  refine TQ.then_ret ?_
  refine TQ.retE (res2 rfl rfl rfl) (⟨rfl, rfl⟩) ?_
  exact ett
set_option maxHeartbeats 1000000 in
theorem Start_yes (b : Nat) (p : AP) (S : AS Msg) (now : Int) (h : S.state = 0) (L : List SA) : Fn Try.prog 23 [pt b 0, vI now] (aB b p S :: L)
    (fun v L' => ∃ a c ha hc, v = .tuple #[.slice a 16 c, vN 0] ∧ L' = SA.owns 5 1 (.slice a 16 c) 16 ((initB S).map v8) :: aB b { p with ha := ha, hc := hc } (S.started now) :: aH { p with ha := ha, hc := hc } (S.started now) :: L) := by
  refine Fn.of (N := 45) Try.func23 rfl rfl ?_
  intro Xh
  refine TC.seq ?_
  refine TC.region ?_
  refine TL.val rfl rfl rfl (Y.assign rfl rfl) ?_
  refine TL.val rfl rfl rfl (Y.assign rfl rfl) ?_
  refine TL.nil ?_
  refine TQ.next ?_
  refine TC.seq ?_
  refine TC.seq ?_
  refine TC.region ?_
  refine TL.val rfl rfl rfl (Y.move rfl rfl) ?_
  refine TL.val rfl rfl rfl (by first | exact Y.eqNilP rfl Try.underlying26 rfl rfl | exact Y.eqNil0 rfl Try.underlying26 rfl rfl) ?_
  refine TL.nil ?_
  refine TQ.next ?_
  refine TC.cond_f rfl ?_
  refine TC.skip ?_
  refine TQ.next ?_
  refine TC.seq ?_
  refine TC.seq ?_
  refine TC.region ?_
  refine TL.val rfl rfl rfl (Y.move rfl rfl) ?_
  refine TL.val rfl rfl rfl (Y.nilCheck rfl rfl) ?_
  refine TL.val rfl rfl rfl (by first | exact Y.fieldAddrJ rfl fo68_3 rfl nqq | exact Y.fieldAddr rfl fo68_3 rfl nqq) ?_
  refine TL.val rfl rfl rfl (Y.load rfl sc3 rfl celN) ?_
  refine TL.as (vN S.state) (by rfl) ?_
  refine TL.val rfl rfl rfl (Y.bin rfl rfl rfl (br_neN (n := 0))) ?_
  refine TL.is false (by simpa using h) ?_
  refine TL.nil ?_
  refine TQ.next ?_
  refine TC.cond_f rfl ?_
  refine TC.skip ?_
  refine TQ.next ?_
  refine TC.seq ?_
  refine TC.region ?_
  refine TL.val rfl rfl rfl (Y.move rfl rfl) ?_
  refine TL.val rfl rfl rfl (Y.move rfl rfl) ?_
  refine TL.val rfl rfl rfl (Y.nilCheck rfl rfl) ?_
  refine TL.val rfl rfl rfl (by first | exact Y.fieldAddrJ rfl fo68_11 rfl nqq | exact Y.fieldAddr rfl fo68_11 rfl nqq) ?_
  refine TL.val rfl rfl rfl (Y.load rfl sc2 rfl celN) ?_
  refine TL.as (vI S.clock) (by rfl) ?_
  refine TL.val rfl rfl rfl (Y.move rfl rfl) ?_
  refine TL.val rfl rfl rfl (Y.maxI rfl rfl rfl) ?_
  refine TL.val rfl rfl rfl (Y.nilCheck rfl rfl) ?_
  refine TL.val rfl rfl rfl (by first | exact Y.fieldAddrJ rfl fo68_11 rfl nqq | exact Y.fieldAddr rfl fo68_11 rfl nqq) ?_
  refine TL.eff0 rfl rfl (X.store (cs' := asC p { S with clock := max S.clock now }) rfl (by kernel_rfl) rfl rfl rfl pul (by show 11 < 17; decide) rfl) ?_
  rintro _ _ rfl
  refine TL.nil ?_
  refine TQ.next ?_
  refine TC.seq ?_
  refine TC.region ?_
  refine TL.eff rfl rfl rfl (X.call rfl Try.func44 (by kernel_rfl) rfl rfl (Fn.preE (by repeat first | (with_reducible apply Ent.refl) | (apply Ent.cons; case h => first | (with_reducible (repeat first | apply Pull.here | apply Pull.there); done) | (repeat first | apply Pull.here | apply Pull.there))) (packet_fn 0 1 _))) ?_
  rintro _ _ ⟨a23, c23, rfl, rfl⟩
  refine TL.eff rfl rfl rfl (X.alloc rfl zc85) ?_
  rintro _ _ ⟨b6, rfl, rfl⟩
  refine TL.eff0 rfl rfl (by first | exact X.store rfl sz85 rfl rfl rfl pul lnn (by first | exact setM | rfl) | exact X.storeOwn rfl sz85 rfl (Nat.zero_add _).symm rfl rfl pul lnn (by first | exact setML | rfl) | exact X.storeOwn rfl sz85 rfl rfl rfl rfl pul lnn (by first | exact setML | rfl)) ?_
  rintro _ _ rfl
  refine TL.nil ?_
  refine TQ.to (wr.put (b := b6) pul (by rfl) pul (l := pkt 0 1) rfl rfl Ent.refl) ?_
  refine TQ.next ?_
  refine TC.seq ?_
  refine TC.region ?_
  refine TL.val rfl rfl rfl (Y.move rfl rfl) ?_
  refine TL.val rfl rfl rfl (Y.nilCheck rfl rfl) ?_
  refine TL.val rfl rfl rfl (by first | exact Y.fieldAddrJ rfl fo68_0 rfl nqq | exact Y.fieldAddr rfl fo68_0 rfl nqq) ?_
  refine TL.val rfl rfl rfl (Y.load rfl sc22 rfl cel32) ?_
  refine TL.as (v32 S.tag) (by rfl) ?_
  refine TL.eff rfl rfl rfl (X.call rfl Try.func45 (by kernel_rfl) rfl rfl (Fn.preE (by repeat first | (with_reducible apply Ent.refl) | (apply Ent.cons; case h => first | (with_reducible (repeat first | apply Pull.here | apply Pull.there); done) | (repeat first | apply Pull.here | apply Pull.there))) (wr.U32_fn b6 S.tag (pkt 0 1) (by decide) _))) ?_
  rintro _ _ ⟨rfl, rfl⟩
  refine TL.nil ?_
  refine TQ.next ?_
  refine TC.seq ?_
  refine TC.region ?_
  refine TL.val rfl rfl rfl (Y.move rfl rfl) ?_
  refine TL.val rfl rfl rfl (Y.nilCheck rfl rfl) ?_
  refine TL.val rfl rfl rfl (by first | exact Y.fieldAddrJ rfl fo68_1 rfl nqq | exact Y.fieldAddr rfl fo68_1 rfl nqq) ?_
  refine TL.val rfl rfl rfl (Y.load rfl sc22 rfl cel32) ?_
  refine TL.as (v32 S.first) (by rfl) ?_
  refine TL.eff rfl rfl rfl (X.call rfl Try.func45 (by kernel_rfl) rfl rfl (Fn.preE (by repeat first | (with_reducible apply Ent.refl) | (apply Ent.cons; case h => first | (with_reducible (repeat first | apply Pull.here | apply Pull.there); done) | (repeat first | apply Pull.here | apply Pull.there))) (wr.U32_fn b6 S.first _ (by show 12 ≤ _; decide) _))) ?_
  rintro _ _ ⟨rfl, rfl⟩
  rw [show pkt 0 1 ++ be32 S.tag ++ be32 S.first = initB S from rfl]
  refine TL.nil ?_
  refine TQ.next ?_
  refine TC.seq ?_
  refine TC.open pul ?_
  rintro ⟨wa, wc⟩
  refine TC.split pul ?_
  refine TC.to ((Pull.ent (A := SA.owns 5 1 (.slice wa (initB S).length wc) (initB S).length ((initB S).map v8)) pul).trans Ent.freeze) ?_
  refine TC.region ?_
  refine TL.val rfl rfl rfl (Y.move rfl rfl) ?_
  refine TL.val rfl rfl rfl (Y.move rfl rfl) ?_
  refine TL.val rfl rfl rfl (Y.load rfl sc85 rfl celD) ?_
  refine TL.val rfl rfl rfl (Y.nilCheck rfl rfl) ?_
  refine TL.val rfl rfl rfl (by first | exact Y.fieldAddrJ rfl fo68_3 rfl nqq | exact Y.fieldAddr rfl fo68_3 rfl nqq) ?_
  refine TL.eff0 rfl rfl (X.store (cs' := asC p { S with clock := max S.clock now, state := 1 }) rfl (by kernel_rfl) rfl rfl rfl pul (by show 3 < 17; decide) rfl) ?_
  rintro _ _ rfl
  refine TL.val rfl rfl rfl (Y.nilCheck rfl rfl) ?_
  refine TL.val rfl rfl rfl (by first | exact Y.fieldAddrJ rfl fo68_13 rfl nqq | exact Y.fieldAddr rfl fo68_13 rfl nqq) ?_
  refine TL.eff0 rfl rfl (X.store (cs' := asC { p with ha := wa, hc := wc } { S with clock := max S.clock now, state := 1, shake := initB S }) rfl (by kernel_rfl) rfl rfl rfl pul (by show 16 < 17; decide) rfl) ?_
  rintro _ _ rfl
  refine TL.nil ?_
  refine TQ.next ?_
  refine TC.seq ?_
  refine TC.region ?_
  refine TL.val rfl rfl rfl (Y.move rfl rfl) ?_
  refine TL.eff rfl rfl rfl (X.call rfl Try.func46 (by kernel_rfl) rfl rfl (Fn.preE (by repeat first | (with_reducible apply Ent.refl) | (apply Ent.cons; case h => first | (with_reducible (repeat first | apply Pull.here | apply Pull.there); done) | (repeat first | apply Pull.here | apply Pull.there))) (start_fn b { p with ha := wa, hc := wc } { S with clock := max S.clock now, state := 1, shake := initB S } _))) ?_
  rintro _ _ ⟨rfl, rfl⟩
  refine TL.nil ?_
  refine TQ.next ?_
  refine TC.seq ?_
  refine TC.region ?_
  refine TL.val rfl rfl rfl (Y.load rfl sc85 rfl celD) ?_
  refine TL.eff rfl rfl rfl (X.call rfl Try.func25 (by kernel_rfl) rfl rfl (Fn.preE (by repeat first | (with_reducible apply Ent.refl) | (apply Ent.cons; case h => first | (with_reducible (repeat first | apply Pull.here | apply Pull.there); done) | (repeat first | apply Pull.here | apply Pull.there))) (rd.Clone_fn _ _ _ (initB S) rfl (by show 16 ≤ _; decide) _))) ?_
  rintro _ _ ⟨a44, c44, rfl, rfl⟩
  refine TL.val rfl rfl rfl (Y.assign rfl rfl) ?_
  refine TL.val rfl rfl rfl (Y.assign rfl rfl) ?_
  refine TL.nil ?_
  refine TQ.next ?_
  refine TC.ret ?_
  refine TQ.retE (res2 rfl rfl rfl) (⟨_, _, wa, wc, rfl, rfl⟩) ?_
  exact ett
def AS.aborted {μ : Type} (S : AS μ) : AS μ := { S with state := 4, tset := false }
theorem Abort_no (b : Nat) (p : AP) (S : AS Msg) (h : S.known = false) (L : List SA) : Fn Try.prog 24 [pt b 0] (aB b p S :: L) (fun v L' => v = .slice none 0 0 ∧ L' = aB b p S.aborted :: L) := by
  refine Fn.of (N := 22) Try.func24 rfl rfl ?_
  intro Xh
  refine TC.seq ?_
  refine TC.region ?_
  refine TL.val rfl rfl rfl (Y.assign rfl rfl) ?_
  refine TL.nil ?_
  refine TQ.next ?_
  refine TC.seq ?_
  refine TC.seq ?_
  refine TC.region ?_
  refine TL.val rfl rfl rfl (Y.move rfl rfl) ?_
  refine TL.val rfl rfl rfl (by first | exact Y.eqNilP rfl Try.underlying26 rfl rfl | exact Y.eqNil0 rfl Try.underlying26 rfl rfl) ?_
  refine TL.nil ?_
  refine TQ.next ?_
  refine TC.cond_f rfl ?_
  refine TC.skip ?_
  refine TQ.next ?_
  refine TC.seq ?_
  refine TC.region ?_
  refine TL.val rfl rfl rfl (Y.move rfl rfl) ?_
  refine TL.val rfl rfl rfl (Y.move rfl rfl) ?_
  refine TL.val rfl rfl rfl (Y.nilCheck rfl rfl) ?_
  refine TL.val rfl rfl rfl (by first | exact Y.fieldAddrJ rfl fo68_3 rfl nqq | exact Y.fieldAddr rfl fo68_3 rfl nqq) ?_
  refine TL.eff0 rfl rfl (X.store (cs' := asC p { S with state := 4 }) rfl (by kernel_rfl) rfl rfl rfl pul (by show 3 < 17; decide) rfl) ?_
  rintro _ _ rfl
  refine TL.val rfl rfl rfl (Y.nilCheck rfl rfl) ?_
  refine TL.val rfl rfl rfl (by first | exact Y.fieldAddrJ rfl fo68_12 rfl nqq | exact Y.fieldAddr rfl fo68_12 rfl nqq) ?_
  refine TL.val rfl rfl rfl (by first | exact Y.fieldAddrJ rfl fo66_0 rfl nqq | exact Y.fieldAddr rfl fo66_0 rfl nqq) ?_
  refine TL.eff0 rfl rfl (X.store (cs' := asC p S.aborted) rfl (by kernel_rfl) rfl rfl rfl pul (by show 12 < 17; decide) rfl) ?_
  rintro _ _ rfl
  refine TL.nil ?_
  refine TQ.next ?_
  refine TC.seq ?_
  refine TC.seq ?_
  refine TC.region ?_
  refine TL.val rfl rfl rfl (Y.move rfl rfl) ?_
  refine TL.val rfl rfl rfl (Y.nilCheck rfl rfl) ?_
  refine TL.val rfl rfl rfl (by first | exact Y.fieldAddrJ rfl fo68_4 rfl nqq | exact Y.fieldAddr rfl fo68_4 rfl nqq) ?_
  refine TL.val rfl rfl rfl (Y.load rfl sc4 rfl celD) ?_
  refine TL.val rfl rfl rfl (Y.not rfl rfl) ?_
  refine TL.is true (by (show (!S.known) = true; rw [h]; rfl)) ?_
  refine TL.nil ?_
  refine TQ.next ?_
  refine TC.cond_t rfl ?_
  refine TC.seq ?_
  refine TC.region ?_
  refine TL.val rfl rfl rfl (Y.assign rfl rfl) ?_
  refine TL.nil ?_
  refine TQ.next ?_
  refine TC.ret ?_
  refine TQ.then_ret ?_
  refine TQ.retE (res1 rfl rfl) (⟨rfl, rfl⟩) ?_
  exact ett
end ac
end Go.Proofs.Ytomplpdeeomehaa

/- assoc: what a side does, as plain data. -/
namespace Go.Proofs.Ytomplpdeeomehaa
set_option linter.unusedVariables false
set_option linter.unusedSimpArgs false
open Go.RowKit
namespace ac
open wr (be16 be32)
open rd (num)
abbrev PS := AS PM
def abs (S : AS Msg) : PS := { tag := S.tag, first := S.first, secret := S.secret, state := S.state, known := S.known, other := S.other, top := S.top, kept := fun k => (S.kept k).map pm, base := S.base, queue := S.queue.map fun x => (pm x.1, x.2), sent := S.sent, clock := S.clock, tset := S.tset, moment := S.moment, delay := S.delay, fires := S.fires, shake := S.shake }
def n32 (b : List UInt8) (at_ : Nat) : UInt32 := num ((b.drop at_).take 4)
def fitsB (k : UInt8) (n : Nat) : Bool :=
  if k = 1 then decide (n = 8) else if k = 2 then decide (n = 44) else if k = 3 then decide (n = 36) else if k = 4 ∨ k = 7 then decide (n = 0)
  else if k = 5 then decide (10 ≤ n ∧ n ≤ 1034) else if k = 6 then decide (4 ≤ n ∧ n % 4 = 0 ∧ n ≤ 68) else false
section
variable {μ : Type} (S : AS μ)
def AS.clocked (now : Int) : AS μ := { S with clock := max S.clock now }
/-- an INIT is answered -/
def AS.initAckB (tag tsn : UInt32) : List UInt8 := pkt tag 2 ++ be32 S.tag ++ be32 S.first ++ cookieB S tag tsn
def echoB (other : UInt32) (c : List UInt8) : List UInt8 := pkt other 3 ++ c
def AS.echo (tag tsn : UInt32) (c : List UInt8) : AS μ := ({ S with known := true, other := tag, top := tsn - 1, state := 2, shake := echoB tag c } : AS μ).starts
def AS.opened (tag tsn : UInt32) : AS μ := { S with state := 3, known := true, other := tag, top := tsn - 1 }
/-- a message is kept, if it is new and near -/
def AS.keep (t : UInt32) (m : μ) : AS μ := if (S.kept t).isNone = true ∧ t - S.top - 1 < 32 then { S with kept := mput S.kept t m } else S
def AS.step1 : AS μ := { S with top := S.top + 1, kept := mdel S.kept (S.top + 1) }
/-- what is next is delivered -/
def AS.deliver : Nat → AS μ → List μ × AS μ
  | 0, S => ([], S)
  | f + 1, S => match S.kept (S.top + 1) with
    | none => ([], S)
    | some m => (m :: (AS.deliver f S.step1).1, (AS.deliver f S.step1).2)
def AS.recv (t : UInt32) (m : μ) : List μ × AS μ := AS.deliver 33 (S.keep t m)
/-- the numbers beyond the last one that have come -/
def AS.beyond : List UInt32 := ((List.range 32).map fun d => S.top + 1 + UInt32.ofNat d).filter fun t => (S.kept t).isSome
def AS.sackB : List UInt8 := pkt S.other 6 ++ be32 S.top ++ (S.beyond.take 16).flatMap be32
/-- all that is kept is near -/
def AS.Win (w : Nat) : Prop := ∀ k, (S.kept k).isSome = true → (k - S.top - 1).toNat < w
def AS.left (cum : UInt32) : Bool := decide (1 ≤ cum - S.base + 1 ∧ cum - S.base + 1 ≤ UInt32.ofNat S.sent)
def AS.cutQ (n : UInt32) : AS μ := { S with queue := S.queue.drop n.toNat, base := S.base + n, sent := S.sent - n.toNat }
def AS.drop1 (cum : UInt32) : AS μ := if S.left cum then S.cutQ (cum - S.base + 1) else S
def AS.mark (t : UInt32) : AS μ := if t - S.base < UInt32.ofNat S.sent then { S with queue := S.queue.modify (t - S.base).toNat fun x => (x.1, true) } else S
def AS.ack1 (cum : UInt32) (gaps : List UInt32) : AS μ :=
  if S.left cum then { (gaps.foldl AS.mark (S.drop1 cum)).starts with tset := decide (0 < (gaps.foldl AS.mark (S.drop1 cum)).sent) } else gaps.foldl AS.mark (S.drop1 cum)
def AS.win : List Nat := List.range' S.sent (min S.queue.length 16 - S.sent)
def AS.more : AS μ := if S.win ≠ [] ∧ S.tset = false then ({ S with sent := max S.sent (min S.queue.length 16) } : AS μ).starts else { S with sent := max S.sent (min S.queue.length 16) }
def AS.taken (m : μ) (now : Int) : AS μ := { S with clock := max S.clock now, queue := S.queue ++ [(m, false)] }
end
def words : List UInt8 → List UInt32
  | a :: b :: c :: d :: r => num [a, b, c, d] :: words r
  | _ => []
def pdef : PM := (0, 0, [])
def AS.dataAt (S : PS) (i : Nat) : List UInt8 := dataB S.other (S.base + UInt32.ofNat i) ((S.queue[i]?.map (·.1)).getD pdef)
def AS.moreOut (S : PS) : List (List UInt8) := S.win.map S.dataAt
/-- a packet is taken: the state behind it, what is sent, what is delivered, the error -/
def AS.handle (S0 : PS) (now : Int) (b : List UInt8) : PS × List (List UInt8) × List PM × Nat :=
  let S := S0.clocked now
  let kw := n32 b 4
  let k := shr32 kw 24
  if b.length < 8 ∨ kw &&& 16777215 ≠ 0 ∨ fitsB k.toUInt8 (b.length - 8) = false ∨ (decide (n32 b 0 = 0) ≠ decide (k = 1)) then (S, [], [], 2)
  else if k ≤ 2 ∧ n32 b 8 = 0 then (S, [], [], 2)
  else if k = 1 then (if S.state ≠ 0 ∧ S.state ≠ 3 then (S, [], [], 9) else (S, [S.initAckB (n32 b 8) (n32 b 12)], [], 0))
  else if n32 b 0 ≠ S.tag then (S, [], [], 4)
  else if k = 2 then (if S.state ≠ 1 then (S, [], [], 9) else (S.echo (n32 b 8) (n32 b 12) (b.drop 16), [echoB (n32 b 8) (b.drop 16)], [], 0))
  else if k = 3 then (
    if b.drop 8 ≠ cookieB S (n32 b 8) (n32 b 12) then (S, [], [], 4)
    else if S.state = 0 then (S.opened (n32 b 8) (n32 b 12), [pkt (n32 b 8) 4], [], 0)
    else if S.state ≠ 3 ∨ S.other ≠ n32 b 8 then (S, [], [], 9)
    else (S, [pkt S.other 4], [], 0))
  else if k = 4 then (if S.state = 2 then ({ S with state := 3, tset := false }, [], [], 0) else if S.state = 3 then (S, [], [], 0) else (S, [], [], 9))
  else if k = 7 then ({ S with state := 4, tset := false }, [], [], 0)
  else if S.state ≠ 3 then (S, [], [], 9)
  else if k = 5 then (
    let r := S.recv (n32 b 8) ((num ((b.drop 12).take 2)).toUInt16, n32 b 14, b.drop 18)
    (r.2, [r.2.sackB], r.1, 0))
  else (
    let S2 := S.ack1 (n32 b 8) (words (b.drop 12))
    (S2.more, S2.moreOut, [], 0))
/-- what holds of a side always -/
structure Inv {μ : Type} (S : AS μ) : Prop where
  sent : S.sent ≤ S.queue.length
  s16 : S.sent ≤ 16
  q32 : S.queue.length ≤ 32
  near : S.Win 32
  none : S.state < 3 → ∀ k, S.kept k = none
  secret : S.secret.length ≤ 140737488351232
  shake : S.shake.length ≤ 1000
  fires : S.fires ≤ 8
  delay : 0 ≤ S.delay ∧ S.delay ≤ 8000
/-- all messages are short -/
structure Short (S : AS Msg) : Prop where
  queue : ∀ x ∈ S.queue, x.1.2.2.l.length ≤ 1024
end ac
end Go.Proofs.Ytomplpdeeomehaa

/- assoc: the handshake's packets and receive, walked. -/
namespace Go.Proofs.Ytomplpdeeomehaa
set_option linter.unusedVariables false
set_option linter.unusedSimpArgs false
open Go.RowKit
namespace ac
open wr (be16 be32)
open rd (num rdB rdL rdV)
namespace FxAsE
set_option maxRecDepth 100000
theorem el24 : Elt Try.prog 24 23 1 24 (.slice none 0 0) := ⟨Try.underlying24, by kernel_rfl, rfl, by decide, by simp [Value.cells, Value.oneCell']⟩
theorem fo68_0 : Program.fieldOff Try.prog 68 0 = some 0 := by kernel_rfl
theorem fo68_1 : Program.fieldOff Try.prog 68 1 = some 1 := by kernel_rfl
theorem fo68_13 : Program.fieldOff Try.prog 68 13 = some 16 := by kernel_rfl
theorem fo68_3 : Program.fieldOff Try.prog 68 3 = some 3 := by kernel_rfl
theorem fo68_4 : Program.fieldOff Try.prog 68 4 = some 4 := by kernel_rfl
theorem fo68_5 : Program.fieldOff Try.prog 68 5 = some 5 := by kernel_rfl
theorem fo68_6 : Program.fieldOff Try.prog 68 6 = some 6 := by kernel_rfl
theorem sc22 : Program.isSc Try.prog 22 = true := by kernel_rfl
theorem sc3 : Program.isSc Try.prog 3 = true := by kernel_rfl
theorem sc85 : Program.isSc Try.prog 85 = true := by kernel_rfl
theorem sz85 : (Try.prog.info? 85).map (·.size) = some 1 := by kernel_rfl
theorem zc85 : Program.zeroC Try.prog 85 = some #[.slice none 0 0] := by kernel_rfl
end FxAsE
open FxAsE
theorem Ent.nilD {α : Type} [Dat α] {L : List SA} : Ent L (SA.dat (⟨none, 0, []⟩ : Sl α) :: L) := Ent.trans (Ent.nilOwn 0 (Dat.sz α)) (Ent.trans (Ent.under _ Ent.rdss0) (Ent.mkOwn (l := ([] : List α)) (cells := []) Pull.here Pull.here rfl rfl (by rw [Dat.cs_eq]; rfl)))
theorem Ent.one1 {e e' n g cap : Nat} {a : Option Addr} {l : List UInt8} {L L1 L2 : List SA} (h1 : Pull (SA.owns e 1 (.slice a n cap) n (l.map v8)) L L1) (h2 : Pull (SA.owns e' 1 (.slice (some ⟨g, 0, none⟩) 1 1) 1 [.slice a n cap]) L1 L2) (hn : l.length = n) : Ent L (SA.dat (⟨some ⟨g, 0, none⟩, 1, [⟨a, cap, l⟩]⟩ : Sl Bs) :: L2) := by
  subst hn
  exact Ent.trans Ent.bsNil (Ent.trans (Ent.bsPull (xs := []) (a := a) (cap := cap) (l := l) Pull.here h1 rfl rfl) (Ent.mkJoin (xs := [⟨a, cap, l⟩]) Pull.here h2 rfl rfl))
theorem u32_ok (b : Nat) (l : List UInt8) (h : 4 ≤ l.length) (L : List SA) : Fn Try.prog 27 [pt b 0] (rd.R b l false :: L) (fun v L' => v = v32 (num (l.take 4)) ∧ L' = rd.R b (l.drop 4) false :: L) := by
  have hb : rdB 4 l false = false := by simp [rdB]; omega
  refine (rd.U32_fn b l false L).mono ?_
  rintro v L' ⟨rfl, rfl⟩
  exact ⟨_, Ent.refl, by rw [rdV, hb]; rfl, by rw [rdL, hb]; rfl⟩
theorem u16_ok (b : Nat) (l : List UInt8) (h : 2 ≤ l.length) (L : List SA) : Fn Try.prog 34 [pt b 0] (rd.R b l false :: L) (fun v L' => v = v16 (num (l.take 2)).toUInt16 ∧ L' = rd.R b (l.drop 2) false :: L) := by
  have hb : rdB 2 l false = false := by simp [rdB]; omega
  refine (rd.U16_fn b l false L).mono ?_
  rintro v L' ⟨rfl, rfl⟩
  exact ⟨_, Ent.refl, by rw [rdV, hb]; rfl, by rw [rdL, hb]; rfl⟩
theorem take_ok (b k : Nat) (l : List UInt8) (h : k ≤ l.length) (hl : l.length ≤ 140737488351232) (L : List SA) : Fn Try.prog 35 [pt b 0, vN k] (rd.R b l false :: L) (fun v L' => ∃ a c, v = .slice a k c ∧ L' = SA.owns 5 1 (.slice a k c) k ((l.take k).map v8) :: rd.R b (l.drop k) false :: L) := by
  have hb : rdB k l false = false := by simp [rdB]; omega
  have hk : (l.take k).length = k := by rw [List.length_take]; omega
  refine (rd.Take_fn b k l false (by omega) hl L).mono ?_
  rintro v L' ⟨a, c, rfl, rfl⟩
  rw [rdL, rdV, hb]
  simp only [Bool.false_eq_true, if_false, hk]
  exact ⟨_, Ent.refl, a, c, rfl, rfl⟩
--REG rostrum/assoc.fits : _ _ ⟨rfl, rfl⟩ => (ac.fits_fn _ _ (by omega) _)
theorem fits_fn (k : UInt8) (n : Nat) (hn : n < 9223372036854775808) (L : List SA) : Fn Try.prog 29 [v8 k, vN n] L (fun v L' => v = .bool (fitsB k n) ∧ L' = L) := by
  refine Fn.of (N := 44) Try.func29 rfl rfl ?_
  intro Xh
  refine TC.seq ?_
  refine TC.region ?_
  refine TL.val rfl rfl rfl (Y.assign rfl rfl) ?_
  refine TL.nil ?_
  refine TQ.next ?_
  refine TC.seq ?_
  refine TC.seq ?_
  refine TC.region ?_
  refine TL.val rfl rfl rfl (Y.move rfl rfl) ?_
  refine TL.nil ?_
  refine TQ.next ?_
  refine TC.block ?_
  refine TC.seq ?_
  refine TC.region ?_
  refine TL.val rfl rfl rfl (Y.bin rfl rfl rfl (br_eq8 (y := 1))) ?_
  refine TL.val rfl rfl rfl (Y.assign rfl rfl) ?_
  refine TL.nil ?_
  refine TQ.next ?_
  refine TC.cond rfl (fun c0 => ?_) (fun c0 => ?_)
  · try simp only [decide_eq_true_eq, decide_eq_false_iff_not, Bool.not_eq_true', Bool.not_eq_false', Bool.and_eq_true, Bool.or_eq_true, Nat.not_lt, Nat.not_le, beq_iff_eq, bne_iff_ne] at c0
    refine TC.seq ?_
    refine TC.region ?_
    refine TL.val rfl rfl rfl (Y.move rfl rfl) ?_
    refine TL.val rfl rfl rfl (Y.bin rfl rfl rfl (br_eqN (n := 8))) ?_
    refine TL.val rfl rfl rfl (Y.assign rfl rfl) ?_
    refine TL.nil ?_
    refine TQ.next ?_
    refine TC.ret ?_
    refine TQ.block_ret ?_
    refine TQ.then_ret ?_
    refine TQ.retE (res1 rfl rfl) (⟨by unfold fitsB; simp_all <;> (first | done | omega), rfl⟩) ?_
    exact ett
  · try simp only [decide_eq_true_eq, decide_eq_false_iff_not, Bool.not_eq_true', Bool.not_eq_false', Bool.and_eq_true, Bool.or_eq_true, Nat.not_lt, Nat.not_le, beq_iff_eq, bne_iff_ne] at c0
    refine TC.seq ?_
    refine TC.region ?_
    refine TL.val rfl rfl rfl (Y.bin rfl rfl rfl (br_eq8 (y := 2))) ?_
    refine TL.val rfl rfl rfl (Y.assign rfl rfl) ?_
    refine TL.nil ?_
    refine TQ.next ?_
    refine TC.cond rfl (fun c1 => ?_) (fun c1 => ?_)
    · try simp only [decide_eq_true_eq, decide_eq_false_iff_not, Bool.not_eq_true', Bool.not_eq_false', Bool.and_eq_true, Bool.or_eq_true, Nat.not_lt, Nat.not_le, beq_iff_eq, bne_iff_ne] at c1
      refine TC.seq ?_
      refine TC.region ?_
      refine TL.val rfl rfl rfl (Y.move rfl rfl) ?_
      refine TL.val rfl rfl rfl (Y.bin rfl rfl rfl (br_eqN (n := 44))) ?_
      refine TL.val rfl rfl rfl (Y.assign rfl rfl) ?_
      refine TL.nil ?_
      refine TQ.next ?_
      refine TC.ret ?_
      refine TQ.block_ret ?_
      refine TQ.then_ret ?_
      refine TQ.retE (res1 rfl rfl) (⟨by unfold fitsB; simp_all <;> (first | done | omega), rfl⟩) ?_
      exact ett
    · try simp only [decide_eq_true_eq, decide_eq_false_iff_not, Bool.not_eq_true', Bool.not_eq_false', Bool.and_eq_true, Bool.or_eq_true, Nat.not_lt, Nat.not_le, beq_iff_eq, bne_iff_ne] at c1
      refine TC.seq ?_
      refine TC.region ?_
      refine TL.val rfl rfl rfl (Y.bin rfl rfl rfl (br_eq8 (y := 3))) ?_
      refine TL.val rfl rfl rfl (Y.assign rfl rfl) ?_
      refine TL.nil ?_
      refine TQ.next ?_
      refine TC.cond rfl (fun c2 => ?_) (fun c2 => ?_)
      · try simp only [decide_eq_true_eq, decide_eq_false_iff_not, Bool.not_eq_true', Bool.not_eq_false', Bool.and_eq_true, Bool.or_eq_true, Nat.not_lt, Nat.not_le, beq_iff_eq, bne_iff_ne] at c2
        refine TC.seq ?_
        refine TC.region ?_
        refine TL.val rfl rfl rfl (Y.move rfl rfl) ?_
        refine TL.val rfl rfl rfl (Y.bin rfl rfl rfl (br_eqN (n := 36))) ?_
        refine TL.val rfl rfl rfl (Y.assign rfl rfl) ?_
        refine TL.nil ?_
        refine TQ.next ?_
        refine TC.ret ?_
        refine TQ.block_ret ?_
        refine TQ.then_ret ?_
        refine TQ.retE (res1 rfl rfl) (⟨by unfold fitsB; simp_all <;> (first | done | omega), rfl⟩) ?_
        exact ett
      · try simp only [decide_eq_true_eq, decide_eq_false_iff_not, Bool.not_eq_true', Bool.not_eq_false', Bool.and_eq_true, Bool.or_eq_true, Nat.not_lt, Nat.not_le, beq_iff_eq, bne_iff_ne] at c2
        refine TC.seq ?_
        refine TC.seq ?_
        refine TC.region ?_
        refine TL.val rfl rfl rfl (Y.bin rfl rfl rfl (br_eq8 (y := 4))) ?_
        refine TL.val rfl rfl rfl (Y.assign rfl rfl) ?_
        refine TL.nil ?_
        refine TQ.next ?_
        refine TC.cond rfl (fun c3 => ?_) (fun c3 => ?_)
        · try simp only [decide_eq_true_eq, decide_eq_false_iff_not, Bool.not_eq_true', Bool.not_eq_false', Bool.and_eq_true, Bool.or_eq_true, Nat.not_lt, Nat.not_le, beq_iff_eq, bne_iff_ne] at c3
          refine TC.skip ?_
          refine TQ.next ?_
          refine TC.cond rfl (fun c4 => ?_) (fun c4 => ?_)
          · try simp only [decide_eq_true_eq, decide_eq_false_iff_not, Bool.not_eq_true', Bool.not_eq_false', Bool.and_eq_true, Bool.or_eq_true, Nat.not_lt, Nat.not_le, beq_iff_eq, bne_iff_ne] at c4
            refine TC.seq ?_
            refine TC.region ?_
            refine TL.val rfl rfl rfl (Y.move rfl rfl) ?_
            refine TL.val rfl rfl rfl (Y.bin rfl rfl rfl (br_eqN (n := 0))) ?_
            refine TL.val rfl rfl rfl (Y.assign rfl rfl) ?_
            refine TL.nil ?_
            refine TQ.next ?_
            refine TC.ret ?_
            refine TQ.block_ret ?_
            refine TQ.then_ret ?_
            refine TQ.retE (res1 rfl rfl) (⟨by unfold fitsB; simp_all <;> (first | done | omega), rfl⟩) ?_
            exact ett
          · try simp only [decide_eq_true_eq, decide_eq_false_iff_not, Bool.not_eq_true', Bool.not_eq_false', Bool.and_eq_true, Bool.or_eq_true, Nat.not_lt, Nat.not_le, beq_iff_eq, bne_iff_ne] at c4
            refine TC.seq ?_
            refine TC.region ?_
            refine TL.val rfl rfl rfl (Y.bin rfl rfl rfl (br_eq8 (y := 5))) ?_
            refine TL.val rfl rfl rfl (Y.assign rfl rfl) ?_
            refine TL.nil ?_
            refine TQ.next ?_
            refine TC.cond rfl (fun c5 => ?_) (fun c5 => ?_)
            · try simp only [decide_eq_true_eq, decide_eq_false_iff_not, Bool.not_eq_true', Bool.not_eq_false', Bool.and_eq_true, Bool.or_eq_true, Nat.not_lt, Nat.not_le, beq_iff_eq, bne_iff_ne] at c5
              refine TC.seq ?_
              refine TC.region ?_
              refine TL.val rfl rfl rfl (Y.move rfl rfl) ?_
              refine TL.val rfl rfl rfl (Y.bin rfl rfl rfl (br_geN (n := 10))) ?_
              refine TL.val rfl rfl rfl (Y.move rfl rfl) ?_
              refine TL.case (fun g12_2 => ?_) (fun g12_2 => ?_)
              · try simp only [decide_eq_true_eq, decide_eq_false_iff_not, Bool.not_eq_true', Bool.not_eq_false', Nat.not_lt, Nat.not_le, beq_iff_eq, bne_iff_ne] at g12_2
                refine TL.valG rfl rfl rfl (Y.move rfl rfl) ?_
                refine TL.valG rfl rfl rfl (Y.bin rfl rfl rfl (br_leN (n := 1034))) ?_
                refine TL.val rfl rfl rfl (Y.pick_t rfl rfl rfl) ?_
                refine TL.val rfl rfl rfl (Y.assign rfl rfl) ?_
                refine TL.nil ?_
                refine TQ.next ?_
                refine TC.ret ?_
                refine TQ.block_ret ?_
                refine TQ.then_ret ?_
                refine TQ.retE (res1 rfl rfl) (⟨by unfold fitsB; simp_all <;> (first | done | omega), rfl⟩) ?_
                exact ett
              · try simp only [decide_eq_true_eq, decide_eq_false_iff_not, Bool.not_eq_true', Bool.not_eq_false', Nat.not_lt, Nat.not_le, beq_iff_eq, bne_iff_ne] at g12_2
                refine TL.not rfl rfl rfl ?_
                refine TL.not rfl rfl rfl ?_
                refine TL.val rfl rfl rfl (Y.pick_f rfl rfl rfl) ?_
                refine TL.val rfl rfl rfl (Y.assign rfl rfl) ?_
                refine TL.nil ?_
                refine TQ.next ?_
                refine TC.ret ?_
                refine TQ.block_ret ?_
                refine TQ.then_ret ?_
                refine TQ.retE (res1 rfl rfl) (⟨by unfold fitsB; simp_all <;> (first | done | omega), rfl⟩) ?_
                exact ett
            · try simp only [decide_eq_true_eq, decide_eq_false_iff_not, Bool.not_eq_true', Bool.not_eq_false', Bool.and_eq_true, Bool.or_eq_true, Nat.not_lt, Nat.not_le, beq_iff_eq, bne_iff_ne] at c5
              refine TC.seq ?_
              refine TC.region ?_
              refine TL.val rfl rfl rfl (Y.bin rfl rfl rfl (br_eq8 (y := 6))) ?_
              refine TL.val rfl rfl rfl (Y.assign rfl rfl) ?_
              refine TL.nil ?_
              refine TQ.next ?_
              refine TC.cond rfl (fun c6 => ?_) (fun c6 => ?_)
              · try simp only [decide_eq_true_eq, decide_eq_false_iff_not, Bool.not_eq_true', Bool.not_eq_false', Bool.and_eq_true, Bool.or_eq_true, Nat.not_lt, Nat.not_le, beq_iff_eq, bne_iff_ne] at c6
                refine TC.seq ?_
                refine TC.region ?_
                refine TL.val rfl rfl rfl (Y.move rfl rfl) ?_
                refine TL.val rfl rfl rfl (Y.bin rfl rfl rfl (br_geN (n := 4))) ?_
                refine TL.val rfl rfl rfl (Y.move rfl rfl) ?_
                refine TL.case (fun g14_2 => ?_) (fun g14_2 => ?_)
                · try simp only [decide_eq_true_eq, decide_eq_false_iff_not, Bool.not_eq_true', Bool.not_eq_false', Nat.not_lt, Nat.not_le, beq_iff_eq, bne_iff_ne] at g14_2
                  refine TL.valG rfl rfl rfl (Y.move rfl rfl) ?_
                  refine TL.valG rfl rfl rfl (Y.bin rfl rfl rfl (br_remN (n := 4) (by omega))) ?_
                  refine TL.valG rfl rfl rfl (Y.bin rfl rfl rfl (br_eqN (n := 0))) ?_
                  refine TL.val rfl rfl rfl (Y.pick_t rfl rfl rfl) ?_
                  refine TL.val rfl rfl rfl (Y.move rfl rfl) ?_
                  refine TL.case (fun g14_7 => ?_) (fun g14_7 => ?_)
                  · try simp only [decide_eq_true_eq, decide_eq_false_iff_not, Bool.not_eq_true', Bool.not_eq_false', Nat.not_lt, Nat.not_le, beq_iff_eq, bne_iff_ne] at g14_7
                    refine TL.valG rfl rfl rfl (Y.move rfl rfl) ?_
                    refine TL.valG rfl rfl rfl (Y.bin rfl rfl rfl (br_leN (n := 68))) ?_
                    refine TL.val rfl rfl rfl (Y.pick_t rfl rfl rfl) ?_
                    refine TL.val rfl rfl rfl (Y.assign rfl rfl) ?_
                    refine TL.nil ?_
                    refine TQ.next ?_
                    refine TC.ret ?_
                    refine TQ.block_ret ?_
                    refine TQ.then_ret ?_
                    refine TQ.retE (res1 rfl rfl) (⟨by unfold fitsB; simp_all <;> (first | done | omega), rfl⟩) ?_
                    exact ett
                  · try simp only [decide_eq_true_eq, decide_eq_false_iff_not, Bool.not_eq_true', Bool.not_eq_false', Nat.not_lt, Nat.not_le, beq_iff_eq, bne_iff_ne] at g14_7
                    refine TL.not rfl rfl rfl ?_
                    refine TL.not rfl rfl rfl ?_
                    refine TL.val rfl rfl rfl (Y.pick_f rfl rfl rfl) ?_
                    refine TL.val rfl rfl rfl (Y.assign rfl rfl) ?_
                    refine TL.nil ?_
                    refine TQ.next ?_
                    refine TC.ret ?_
                    refine TQ.block_ret ?_
                    refine TQ.then_ret ?_
                    refine TQ.retE (res1 rfl rfl) (⟨by unfold fitsB; simp_all <;> (first | done | omega), rfl⟩) ?_
                    exact ett
                · try simp only [decide_eq_true_eq, decide_eq_false_iff_not, Bool.not_eq_true', Bool.not_eq_false', Nat.not_lt, Nat.not_le, beq_iff_eq, bne_iff_ne] at g14_2
                  refine TL.not rfl rfl rfl ?_
                  refine TL.not rfl rfl rfl ?_
                  refine TL.not rfl rfl rfl ?_
                  refine TL.val rfl rfl rfl (Y.pick_f rfl rfl rfl) ?_
                  refine TL.val rfl rfl rfl (Y.move rfl rfl) ?_
                  refine TL.not rfl rfl rfl ?_
                  refine TL.not rfl rfl rfl ?_
                  refine TL.val rfl rfl rfl (Y.pick_f rfl rfl rfl) ?_
                  refine TL.val rfl rfl rfl (Y.assign rfl rfl) ?_
                  refine TL.nil ?_
                  refine TQ.next ?_
                  refine TC.ret ?_
                  refine TQ.block_ret ?_
                  refine TQ.then_ret ?_
                  refine TQ.retE (res1 rfl rfl) (⟨by unfold fitsB; simp_all <;> (first | done | omega), rfl⟩) ?_
                  exact ett
              · try simp only [decide_eq_true_eq, decide_eq_false_iff_not, Bool.not_eq_true', Bool.not_eq_false', Bool.and_eq_true, Bool.or_eq_true, Nat.not_lt, Nat.not_le, beq_iff_eq, bne_iff_ne] at c6
                refine TC.skip ?_
                refine TQ.block_normal ?_
                refine TQ.next ?_
                refine TC.seq ?_
                refine TC.region ?_
                refine TL.val rfl rfl rfl (Y.assign rfl rfl) ?_
                refine TL.nil ?_
                refine TQ.next ?_
                refine TC.ret ?_
                refine TQ.retE (res1 rfl rfl) (⟨by unfold fitsB; simp_all <;> (first | done | omega), rfl⟩) ?_
                exact ett
        · try simp only [decide_eq_true_eq, decide_eq_false_iff_not, Bool.not_eq_true', Bool.not_eq_false', Bool.and_eq_true, Bool.or_eq_true, Nat.not_lt, Nat.not_le, beq_iff_eq, bne_iff_ne] at c3
          refine TC.region ?_
          refine TL.val rfl rfl rfl (Y.bin rfl rfl rfl (br_eq8 (y := 7))) ?_
          refine TL.val rfl rfl rfl (Y.assign rfl rfl) ?_
          refine TL.nil ?_
          refine TQ.next ?_
          refine TC.cond rfl (fun c4 => ?_) (fun c4 => ?_)
          · try simp only [decide_eq_true_eq, decide_eq_false_iff_not, Bool.not_eq_true', Bool.not_eq_false', Bool.and_eq_true, Bool.or_eq_true, Nat.not_lt, Nat.not_le, beq_iff_eq, bne_iff_ne] at c4
            refine TC.seq ?_
            refine TC.region ?_
            refine TL.val rfl rfl rfl (Y.move rfl rfl) ?_
            refine TL.val rfl rfl rfl (Y.bin rfl rfl rfl (br_eqN (n := 0))) ?_
            refine TL.val rfl rfl rfl (Y.assign rfl rfl) ?_
            refine TL.nil ?_
            refine TQ.next ?_
            refine TC.ret ?_
            refine TQ.block_ret ?_
            refine TQ.then_ret ?_
            refine TQ.retE (res1 rfl rfl) (⟨by unfold fitsB; simp_all <;> (first | done | omega), rfl⟩) ?_
            exact ett
          · try simp only [decide_eq_true_eq, decide_eq_false_iff_not, Bool.not_eq_true', Bool.not_eq_false', Bool.and_eq_true, Bool.or_eq_true, Nat.not_lt, Nat.not_le, beq_iff_eq, bne_iff_ne] at c4
            refine TC.seq ?_
            refine TC.region ?_
            refine TL.val rfl rfl rfl (Y.bin rfl rfl rfl (br_eq8 (y := 5))) ?_
            refine TL.val rfl rfl rfl (Y.assign rfl rfl) ?_
            refine TL.nil ?_
            refine TQ.next ?_
            refine TC.cond rfl (fun c5 => ?_) (fun c5 => ?_)
            · try simp only [decide_eq_true_eq, decide_eq_false_iff_not, Bool.not_eq_true', Bool.not_eq_false', Bool.and_eq_true, Bool.or_eq_true, Nat.not_lt, Nat.not_le, beq_iff_eq, bne_iff_ne] at c5
              refine TC.seq ?_
              refine TC.region ?_
              refine TL.val rfl rfl rfl (Y.move rfl rfl) ?_
              refine TL.val rfl rfl rfl (Y.bin rfl rfl rfl (br_geN (n := 10))) ?_
              refine TL.val rfl rfl rfl (Y.move rfl rfl) ?_
              refine TL.case (fun g12_2 => ?_) (fun g12_2 => ?_)
              · try simp only [decide_eq_true_eq, decide_eq_false_iff_not, Bool.not_eq_true', Bool.not_eq_false', Nat.not_lt, Nat.not_le, beq_iff_eq, bne_iff_ne] at g12_2
                refine TL.valG rfl rfl rfl (Y.move rfl rfl) ?_
                refine TL.valG rfl rfl rfl (Y.bin rfl rfl rfl (br_leN (n := 1034))) ?_
                refine TL.val rfl rfl rfl (Y.pick_t rfl rfl rfl) ?_
                refine TL.val rfl rfl rfl (Y.assign rfl rfl) ?_
                refine TL.nil ?_
                refine TQ.next ?_
                refine TC.ret ?_
                refine TQ.block_ret ?_
                refine TQ.then_ret ?_
                refine TQ.retE (res1 rfl rfl) (⟨by unfold fitsB; simp_all <;> (first | done | omega), rfl⟩) ?_
                exact ett
              · try simp only [decide_eq_true_eq, decide_eq_false_iff_not, Bool.not_eq_true', Bool.not_eq_false', Nat.not_lt, Nat.not_le, beq_iff_eq, bne_iff_ne] at g12_2
                refine TL.not rfl rfl rfl ?_
                refine TL.not rfl rfl rfl ?_
                refine TL.val rfl rfl rfl (Y.pick_f rfl rfl rfl) ?_
                refine TL.val rfl rfl rfl (Y.assign rfl rfl) ?_
                refine TL.nil ?_
                refine TQ.next ?_
                refine TC.ret ?_
                refine TQ.block_ret ?_
                refine TQ.then_ret ?_
                refine TQ.retE (res1 rfl rfl) (⟨by unfold fitsB; simp_all <;> (first | done | omega), rfl⟩) ?_
                exact ett
            · try simp only [decide_eq_true_eq, decide_eq_false_iff_not, Bool.not_eq_true', Bool.not_eq_false', Bool.and_eq_true, Bool.or_eq_true, Nat.not_lt, Nat.not_le, beq_iff_eq, bne_iff_ne] at c5
              refine TC.seq ?_
              refine TC.region ?_
              refine TL.val rfl rfl rfl (Y.bin rfl rfl rfl (br_eq8 (y := 6))) ?_
              refine TL.val rfl rfl rfl (Y.assign rfl rfl) ?_
              refine TL.nil ?_
              refine TQ.next ?_
              refine TC.cond rfl (fun c6 => ?_) (fun c6 => ?_)
              · try simp only [decide_eq_true_eq, decide_eq_false_iff_not, Bool.not_eq_true', Bool.not_eq_false', Bool.and_eq_true, Bool.or_eq_true, Nat.not_lt, Nat.not_le, beq_iff_eq, bne_iff_ne] at c6
                refine TC.seq ?_
                refine TC.region ?_
                refine TL.val rfl rfl rfl (Y.move rfl rfl) ?_
                refine TL.val rfl rfl rfl (Y.bin rfl rfl rfl (br_geN (n := 4))) ?_
                refine TL.val rfl rfl rfl (Y.move rfl rfl) ?_
                refine TL.case (fun g14_2 => ?_) (fun g14_2 => ?_)
                · try simp only [decide_eq_true_eq, decide_eq_false_iff_not, Bool.not_eq_true', Bool.not_eq_false', Nat.not_lt, Nat.not_le, beq_iff_eq, bne_iff_ne] at g14_2
                  refine TL.valG rfl rfl rfl (Y.move rfl rfl) ?_
                  refine TL.valG rfl rfl rfl (Y.bin rfl rfl rfl (br_remN (n := 4) (by omega))) ?_
                  refine TL.valG rfl rfl rfl (Y.bin rfl rfl rfl (br_eqN (n := 0))) ?_
                  refine TL.val rfl rfl rfl (Y.pick_t rfl rfl rfl) ?_
                  refine TL.val rfl rfl rfl (Y.move rfl rfl) ?_
                  refine TL.case (fun g14_7 => ?_) (fun g14_7 => ?_)
                  · try simp only [decide_eq_true_eq, decide_eq_false_iff_not, Bool.not_eq_true', Bool.not_eq_false', Nat.not_lt, Nat.not_le, beq_iff_eq, bne_iff_ne] at g14_7
                    refine TL.valG rfl rfl rfl (Y.move rfl rfl) ?_
                    refine TL.valG rfl rfl rfl (Y.bin rfl rfl rfl (br_leN (n := 68))) ?_
                    refine TL.val rfl rfl rfl (Y.pick_t rfl rfl rfl) ?_
                    refine TL.val rfl rfl rfl (Y.assign rfl rfl) ?_
                    refine TL.nil ?_
                    refine TQ.next ?_
                    refine TC.ret ?_
                    refine TQ.block_ret ?_
                    refine TQ.then_ret ?_
                    refine TQ.retE (res1 rfl rfl) (⟨by unfold fitsB; simp_all <;> (first | done | omega), rfl⟩) ?_
                    exact ett
                  · try simp only [decide_eq_true_eq, decide_eq_false_iff_not, Bool.not_eq_true', Bool.not_eq_false', Nat.not_lt, Nat.not_le, beq_iff_eq, bne_iff_ne] at g14_7
                    refine TL.not rfl rfl rfl ?_
                    refine TL.not rfl rfl rfl ?_
                    refine TL.val rfl rfl rfl (Y.pick_f rfl rfl rfl) ?_
                    refine TL.val rfl rfl rfl (Y.assign rfl rfl) ?_
                    refine TL.nil ?_
                    refine TQ.next ?_
                    refine TC.ret ?_
                    refine TQ.block_ret ?_
                    refine TQ.then_ret ?_
                    refine TQ.retE (res1 rfl rfl) (⟨by unfold fitsB; simp_all <;> (first | done | omega), rfl⟩) ?_
                    exact ett
                · try simp only [decide_eq_true_eq, decide_eq_false_iff_not, Bool.not_eq_true', Bool.not_eq_false', Nat.not_lt, Nat.not_le, beq_iff_eq, bne_iff_ne] at g14_2
                  refine TL.not rfl rfl rfl ?_
                  refine TL.not rfl rfl rfl ?_
                  refine TL.not rfl rfl rfl ?_
                  refine TL.val rfl rfl rfl (Y.pick_f rfl rfl rfl) ?_
                  refine TL.val rfl rfl rfl (Y.move rfl rfl) ?_
                  refine TL.not rfl rfl rfl ?_
                  refine TL.not rfl rfl rfl ?_
                  refine TL.val rfl rfl rfl (Y.pick_f rfl rfl rfl) ?_
                  refine TL.val rfl rfl rfl (Y.assign rfl rfl) ?_
                  refine TL.nil ?_
                  refine TQ.next ?_
                  refine TC.ret ?_
                  refine TQ.block_ret ?_
                  refine TQ.then_ret ?_
                  refine TQ.retE (res1 rfl rfl) (⟨by unfold fitsB; simp_all <;> (first | done | omega), rfl⟩) ?_
                  exact ett
              · try simp only [decide_eq_true_eq, decide_eq_false_iff_not, Bool.not_eq_true', Bool.not_eq_false', Bool.and_eq_true, Bool.or_eq_true, Nat.not_lt, Nat.not_le, beq_iff_eq, bne_iff_ne] at c6
                refine TC.skip ?_
                refine TQ.block_normal ?_
                refine TQ.next ?_
                refine TC.seq ?_
                refine TC.region ?_
                refine TL.val rfl rfl rfl (Y.assign rfl rfl) ?_
                refine TL.nil ?_
                refine TQ.next ?_
                refine TC.ret ?_
                refine TQ.retE (res1 rfl rfl) (⟨by unfold fitsB; simp_all <;> (first | done | omega), rfl⟩) ?_
                exact ett
section
variable (b : Nat) (p : AP) (S : AS Msg)
theorem initial_no (rb : Nat) (l : List UInt8) (hl : l.length = 8) (h0 : S.state ≠ 0) (h3 : S.state ≠ 3) (L : List SA) :
    Fn Try.prog 31 [pt b 0, pt rb 0] (rd.R rb l false :: aB b p S :: L) (fun v L' => v = .tuple #[.slice none 0 0, .slice none 0 0, vN 9] ∧ L' = aB b p S :: L) := by
  refine Fn.of (N := 45) Try.func31 rfl rfl ?_
  intro Xh
  refine TC.seq ?_
  refine TC.region ?_
  refine TL.val rfl rfl rfl (Y.assign rfl rfl) ?_
  refine TL.val rfl rfl rfl (Y.assign rfl rfl) ?_
  refine TL.val rfl rfl rfl (Y.assign rfl rfl) ?_
  refine TL.nil ?_
  refine TQ.next ?_
  refine TC.seq ?_
  refine TC.region ?_
  refine TL.val rfl rfl rfl (Y.move rfl rfl) ?_
  refine TL.eff rfl rfl rfl (X.call rfl Try.func27 (by kernel_rfl) rfl rfl (Fn.preE (by repeat first | (with_reducible apply Ent.refl) | (apply Ent.cons; case h => first | (with_reducible (repeat first | apply Pull.here | apply Pull.there); done) | (repeat first | apply Pull.here | apply Pull.there))) (u32_ok rb l (by omega) _))) ?_
  rintro _ _ ⟨rfl, rfl⟩
  refine TL.val rfl rfl rfl (Y.move rfl rfl) ?_
  refine TL.eff rfl rfl rfl (X.call rfl Try.func27 (by kernel_rfl) rfl rfl (Fn.preE (by repeat first | (with_reducible apply Ent.refl) | (apply Ent.cons; case h => first | (with_reducible (repeat first | apply Pull.here | apply Pull.there); done) | (repeat first | apply Pull.here | apply Pull.there))) (u32_ok rb (l.drop 4) (by rw [List.length_drop]; omega) _))) ?_
  rintro _ _ ⟨rfl, rfl⟩
  refine TL.val rfl rfl rfl (Y.assign rfl rfl) ?_
  refine TL.val rfl rfl rfl (Y.assign rfl rfl) ?_
  refine TL.nil ?_
  refine TQ.next ?_
  refine TC.seq ?_
  refine TC.seq ?_
  refine TC.region ?_
  refine TL.val rfl rfl rfl (Y.move rfl rfl) ?_
  refine TL.val rfl rfl rfl (Y.nilCheck rfl rfl) ?_
  refine TL.val rfl rfl rfl (by first | exact Y.fieldAddrJ rfl fo68_3 rfl nqq | exact Y.fieldAddr rfl fo68_3 rfl nqq) ?_
  refine TL.val rfl rfl rfl (Y.load rfl sc3 rfl celN) ?_
  refine TL.as (vN S.state) (by rfl) ?_
  refine TL.val rfl rfl rfl (Y.bin rfl rfl rfl (br_neN (n := 0))) ?_
  refine TL.is true (by simpa using h0) ?_
  refine TL.val rfl rfl rfl (Y.move rfl rfl) ?_
  refine TL.valG rfl rfl rfl (Y.move rfl rfl) ?_
  refine TL.valG rfl rfl rfl (Y.nilCheck rfl rfl) ?_
  refine TL.valG rfl rfl rfl (by first | exact Y.fieldAddrJ rfl fo68_3 rfl nqq | exact Y.fieldAddr rfl fo68_3 rfl nqq) ?_
  refine TL.valG rfl rfl rfl (Y.load rfl sc3 rfl celN) ?_
  refine TL.as (vN S.state) (by rfl) ?_
  refine TL.valG rfl rfl rfl (Y.bin rfl rfl rfl (br_neN (n := 3))) ?_
  refine TL.is true (by simpa using h3) ?_
  refine TL.val rfl rfl rfl (Y.pick_t rfl rfl rfl) ?_
  refine TL.nil ?_
  refine TQ.next ?_
  refine TC.cond_t rfl ?_
  refine TC.seq ?_
  refine TC.region ?_
  refine TL.val rfl rfl rfl (Y.assign rfl rfl) ?_
  refine TL.val rfl rfl rfl (Y.assign rfl rfl) ?_
  refine TL.val rfl rfl rfl (Y.assign rfl rfl) ?_
  refine TL.nil ?_
  refine TQ.next ?_
  refine TC.ret ?_
  refine TQ.then_ret ?_
  refine TQ.retE (resL rfl (Res.tmp rfl (Res.tmp rfl (Res.tmp rfl Res.nil)))) (⟨rfl, rfl⟩) ?_
  exact ett
set_option maxHeartbeats 1000000 in
theorem initial_yes (rb : Nat) (l : List UInt8) (hl : l.length = 8) (h : S.state = 0 ∨ S.state = 3) (hs : S.secret.length ≤ 140737488351232) (L : List SA) :
    Fn Try.prog 31 [pt b 0, pt rb 0] (rd.R rb l false :: aB b p S :: aS p S :: L)
      (fun v L' => ∃ o : Sl Bs, v = .tuple #[o.v, .slice none 0 0, vN 0] ∧ o.l.map (·.l) = [S.initAckB (num (l.take 4)) (num ((l.drop 4).take 4))] ∧ L' = SA.dat o :: aB b p S :: aS p S :: L) := by
  obtain ⟨tag, htag⟩ : ∃ t, t = num (l.take 4) := ⟨_, rfl⟩
  obtain ⟨tsn, htsn⟩ : ∃ t, t = num ((l.drop 4).take 4) := ⟨_, rfl⟩
  rw [← htag, ← htsn]
  refine Fn.of (N := 45) Try.func31 rfl rfl ?_
  intro Xh
  refine TC.seq ?_
  refine TC.region ?_
  refine TL.val rfl rfl rfl (Y.assign rfl rfl) ?_
  refine TL.val rfl rfl rfl (Y.assign rfl rfl) ?_
  refine TL.val rfl rfl rfl (Y.assign rfl rfl) ?_
  refine TL.nil ?_
  refine TQ.next ?_
  refine TC.seq ?_
  refine TC.region ?_
  refine TL.val rfl rfl rfl (Y.move rfl rfl) ?_
  refine TL.eff rfl rfl rfl (X.call rfl Try.func27 (by kernel_rfl) rfl rfl (Fn.preE (by repeat first | (with_reducible apply Ent.refl) | (apply Ent.cons; case h => first | (with_reducible (repeat first | apply Pull.here | apply Pull.there); done) | (repeat first | apply Pull.here | apply Pull.there))) (u32_ok rb l (by omega) _))) ?_
  rintro _ _ ⟨rfl, rfl⟩
  rw [← htag]
  refine TL.val rfl rfl rfl (Y.move rfl rfl) ?_
  refine TL.eff rfl rfl rfl (X.call rfl Try.func27 (by kernel_rfl) rfl rfl (Fn.preE (by repeat first | (with_reducible apply Ent.refl) | (apply Ent.cons; case h => first | (with_reducible (repeat first | apply Pull.here | apply Pull.there); done) | (repeat first | apply Pull.here | apply Pull.there))) (u32_ok rb (l.drop 4) (by rw [List.length_drop]; omega) _))) ?_
  rintro _ _ ⟨rfl, rfl⟩
  rw [← htsn]
  refine TL.val rfl rfl rfl (Y.assign rfl rfl) ?_
  refine TL.val rfl rfl rfl (Y.assign rfl rfl) ?_
  refine TL.nil ?_
  refine TQ.next ?_
  refine TC.seq ?_
  refine TC.seq ?_
  refine TC.region ?_
  refine TL.val rfl rfl rfl (Y.move rfl rfl) ?_
  refine TL.val rfl rfl rfl (Y.nilCheck rfl rfl) ?_
  refine TL.val rfl rfl rfl (by first | exact Y.fieldAddrJ rfl fo68_3 rfl nqq | exact Y.fieldAddr rfl fo68_3 rfl nqq) ?_
  refine TL.val rfl rfl rfl (Y.load rfl sc3 rfl celN) ?_
  refine TL.as (vN S.state) (by rfl) ?_
  refine TL.val rfl rfl rfl (Y.bin rfl rfl rfl (br_neN (n := 0))) ?_
  refine TL.val rfl rfl rfl (Y.move rfl rfl) ?_
  refine TL.case (fun g2_5 => ?_) (fun g2_5 => ?_)
  · try simp only [decide_eq_true_eq, decide_eq_false_iff_not, Bool.not_eq_true', Bool.not_eq_false', Nat.not_lt, Nat.not_le, beq_iff_eq, bne_iff_ne] at g2_5
    refine TL.valG rfl rfl rfl (Y.move rfl rfl) ?_
    refine TL.valG rfl rfl rfl (Y.nilCheck rfl rfl) ?_
    refine TL.valG rfl rfl rfl (by first | exact Y.fieldAddrJ rfl fo68_3 rfl nqq | exact Y.fieldAddr rfl fo68_3 rfl nqq) ?_
    refine TL.valG rfl rfl rfl (Y.load rfl sc3 rfl celN) ?_
    refine TL.as (vN S.state) (by rfl) ?_
    refine TL.valG rfl rfl rfl (Y.bin rfl rfl rfl (br_neN (n := 3))) ?_
    refine TL.is false (by (simp; omega)) ?_
    refine TL.val rfl rfl rfl (Y.pick_t rfl rfl rfl) ?_
    refine TL.nil ?_
    refine TQ.next ?_
    refine TC.cond_f rfl ?_
    refine TC.skip ?_
    refine TQ.next ?_
    refine TC.seq ?_
    refine TC.region ?_
    refine TL.val rfl rfl rfl (Y.move rfl rfl) ?_
    refine TL.eff rfl rfl rfl (X.call rfl Try.func44 (by kernel_rfl) rfl rfl (Fn.preE (by repeat first | (with_reducible apply Ent.refl) | (apply Ent.cons; case h => first | (with_reducible (repeat first | apply Pull.here | apply Pull.there); done) | (repeat first | apply Pull.here | apply Pull.there))) (packet_fn tag 2 _))) ?_
    rintro _ _ ⟨a27, c27, rfl, rfl⟩
    refine TL.eff rfl rfl rfl (X.alloc rfl zc85) ?_
    rintro _ _ ⟨b9, rfl, rfl⟩
    refine TL.eff0 rfl rfl (by first | exact X.store rfl sz85 rfl rfl rfl pul lnn (by first | exact setM | rfl) | exact X.storeOwn rfl sz85 rfl (Nat.zero_add _).symm rfl rfl pul lnn (by first | exact setML | rfl) | exact X.storeOwn rfl sz85 rfl rfl rfl rfl pul lnn (by first | exact setML | rfl)) ?_
    rintro _ _ rfl
    refine TL.nil ?_
    refine TQ.to (wr.put (b := b9) pul (by rfl) pul (l := pkt tag 2) rfl rfl Ent.refl) ?_
    refine TQ.next ?_
    refine TC.seq ?_
    refine TC.region ?_
    refine TL.val rfl rfl rfl (Y.move rfl rfl) ?_
    refine TL.val rfl rfl rfl (Y.nilCheck rfl rfl) ?_
    refine TL.val rfl rfl rfl (by first | exact Y.fieldAddrJ rfl fo68_0 rfl nqq | exact Y.fieldAddr rfl fo68_0 rfl nqq) ?_
    refine TL.val rfl rfl rfl (Y.load rfl sc22 rfl cel32) ?_
    refine TL.as (v32 S.tag) (by rfl) ?_
    refine TL.eff rfl rfl rfl (X.call rfl Try.func45 (by kernel_rfl) rfl rfl (Fn.preE (by repeat first | (with_reducible apply Ent.refl) | (apply Ent.cons; case h => first | (with_reducible (repeat first | apply Pull.here | apply Pull.there); done) | (repeat first | apply Pull.here | apply Pull.there))) (wr.U32_fn b9 S.tag (pkt tag 2) (by show 8 ≤ _; decide) _))) ?_
    rintro _ _ ⟨rfl, rfl⟩
    refine TL.nil ?_
    refine TQ.next ?_
    refine TC.seq ?_
    refine TC.region ?_
    refine TL.val rfl rfl rfl (Y.move rfl rfl) ?_
    refine TL.val rfl rfl rfl (Y.nilCheck rfl rfl) ?_
    refine TL.val rfl rfl rfl (by first | exact Y.fieldAddrJ rfl fo68_1 rfl nqq | exact Y.fieldAddr rfl fo68_1 rfl nqq) ?_
    refine TL.val rfl rfl rfl (Y.load rfl sc22 rfl cel32) ?_
    refine TL.as (v32 S.first) (by rfl) ?_
    refine TL.eff rfl rfl rfl (X.call rfl Try.func45 (by kernel_rfl) rfl rfl (Fn.preE (by repeat first | (with_reducible apply Ent.refl) | (apply Ent.cons; case h => first | (with_reducible (repeat first | apply Pull.here | apply Pull.there); done) | (repeat first | apply Pull.here | apply Pull.there))) (wr.U32_fn b9 S.first _ (by show 12 ≤ _; decide) _))) ?_
    rintro _ _ ⟨rfl, rfl⟩
    refine TL.nil ?_
    refine TQ.next ?_
    refine TC.seq ?_
    refine TC.region ?_
    refine TL.val rfl rfl rfl (Y.move rfl rfl) ?_
    refine TL.val rfl rfl rfl (Y.move rfl rfl) ?_
    refine TL.val rfl rfl rfl (Y.move rfl rfl) ?_
    refine TL.eff rfl rfl rfl (X.call rfl Try.func49 (by kernel_rfl) rfl rfl (Fn.preE (by repeat first | (with_reducible apply Ent.refl) | (apply Ent.cons; case h => first | (with_reducible (repeat first | apply Pull.here | apply Pull.there); done) | (repeat first | apply Pull.here | apply Pull.there))) (cookie_fn b p S tag tsn hs _))) ?_
    rintro _ _ ⟨a41, c41, rfl, rfl⟩
    refine TL.eff rfl rfl rfl (X.call rfl Try.func48 (by kernel_rfl) rfl rfl (Fn.preE (by repeat first | (with_reducible apply Ent.refl) | (apply Ent.cons; case h => first | (with_reducible (repeat first | apply Pull.here | apply Pull.there); done) | (repeat first | apply Pull.here | apply Pull.there))) (wr.Bytes_fn (SA.owns 5 1 (.slice a41 36 c41) 36 ((cookieB S tag tsn).map v8)) b9 36 a41 c41 _ (cookieB S tag tsn) Reads.owns (cookieB_len S tag tsn) (by show 16 + 36 ≤ _; decide) _))) ?_
    rintro _ _ ⟨rfl, rfl⟩
    rw [show pkt tag 2 ++ be32 S.tag ++ be32 S.first ++ cookieB S tag tsn = S.initAckB tag tsn from rfl]
    refine TL.nil ?_
    refine TQ.next ?_
    refine TC.seq ?_
    refine TC.open pul ?_
    rintro ⟨wa, wc⟩
    refine TC.split pul ?_
    refine TC.region ?_
    refine TL.val rfl rfl rfl (Y.load rfl sc85 rfl celD) ?_
    refine TL.eff rfl rfl rfl (X.lit rfl el24 rfl rfl rfl (by decide) rfl) ?_
    rintro _ _ ⟨g44, rfl, rfl⟩
    refine TL.val rfl rfl rfl (Y.assign rfl rfl) ?_
    refine TL.val rfl rfl rfl (Y.assign rfl rfl) ?_
    refine TL.val rfl rfl rfl (Y.assign rfl rfl) ?_
    refine TL.nil ?_
    refine TQ.next ?_
    refine TC.ret ?_
    refine TQ.retE (resL rfl (Res.tmp rfl (Res.tmp rfl (Res.tmp rfl Res.nil)))) (⟨⟨some ⟨g44, 0, none⟩, 1, [⟨wa, wc, S.initAckB tag tsn⟩]⟩, rfl, rfl, rfl⟩) ?_
    exact (Ent.trans (Ent.one1 (a := wa) (g := g44) (l := S.initAckB tag tsn) pul pul rfl) ett)
  · try simp only [decide_eq_true_eq, decide_eq_false_iff_not, Bool.not_eq_true', Bool.not_eq_false', Nat.not_lt, Nat.not_le, beq_iff_eq, bne_iff_ne] at g2_5
    refine TL.not rfl rfl rfl ?_
    refine TL.not rfl rfl rfl ?_
    refine TL.not rfl rfl rfl ?_
    refine TL.not rfl rfl rfl ?_
    refine TL.not rfl rfl rfl ?_
    refine TL.val rfl rfl rfl (Y.pick_f rfl rfl rfl) ?_
    refine TL.nil ?_
    refine TQ.next ?_
    refine TC.cond_f rfl ?_
    refine TC.skip ?_
    refine TQ.next ?_
    refine TC.seq ?_
    refine TC.region ?_
    refine TL.val rfl rfl rfl (Y.move rfl rfl) ?_
    refine TL.eff rfl rfl rfl (X.call rfl Try.func44 (by kernel_rfl) rfl rfl (Fn.preE (by repeat first | (with_reducible apply Ent.refl) | (apply Ent.cons; case h => first | (with_reducible (repeat first | apply Pull.here | apply Pull.there); done) | (repeat first | apply Pull.here | apply Pull.there))) (packet_fn tag 2 _))) ?_
    rintro _ _ ⟨a27, c27, rfl, rfl⟩
    refine TL.eff rfl rfl rfl (X.alloc rfl zc85) ?_
    rintro _ _ ⟨b9, rfl, rfl⟩
    refine TL.eff0 rfl rfl (by first | exact X.store rfl sz85 rfl rfl rfl pul lnn (by first | exact setM | rfl) | exact X.storeOwn rfl sz85 rfl (Nat.zero_add _).symm rfl rfl pul lnn (by first | exact setML | rfl) | exact X.storeOwn rfl sz85 rfl rfl rfl rfl pul lnn (by first | exact setML | rfl)) ?_
    rintro _ _ rfl
    refine TL.nil ?_
    refine TQ.to (wr.put (b := b9) pul (by rfl) pul (l := pkt tag 2) rfl rfl Ent.refl) ?_
    refine TQ.next ?_
    refine TC.seq ?_
    refine TC.region ?_
    refine TL.val rfl rfl rfl (Y.move rfl rfl) ?_
    refine TL.val rfl rfl rfl (Y.nilCheck rfl rfl) ?_
    refine TL.val rfl rfl rfl (by first | exact Y.fieldAddrJ rfl fo68_0 rfl nqq | exact Y.fieldAddr rfl fo68_0 rfl nqq) ?_
    refine TL.val rfl rfl rfl (Y.load rfl sc22 rfl cel32) ?_
    refine TL.as (v32 S.tag) (by rfl) ?_
    refine TL.eff rfl rfl rfl (X.call rfl Try.func45 (by kernel_rfl) rfl rfl (Fn.preE (by repeat first | (with_reducible apply Ent.refl) | (apply Ent.cons; case h => first | (with_reducible (repeat first | apply Pull.here | apply Pull.there); done) | (repeat first | apply Pull.here | apply Pull.there))) (wr.U32_fn b9 S.tag (pkt tag 2) (by show 8 ≤ _; decide) _))) ?_
    rintro _ _ ⟨rfl, rfl⟩
    refine TL.nil ?_
    refine TQ.next ?_
    refine TC.seq ?_
    refine TC.region ?_
    refine TL.val rfl rfl rfl (Y.move rfl rfl) ?_
    refine TL.val rfl rfl rfl (Y.nilCheck rfl rfl) ?_
    refine TL.val rfl rfl rfl (by first | exact Y.fieldAddrJ rfl fo68_1 rfl nqq | exact Y.fieldAddr rfl fo68_1 rfl nqq) ?_
    refine TL.val rfl rfl rfl (Y.load rfl sc22 rfl cel32) ?_
    refine TL.as (v32 S.first) (by rfl) ?_
    refine TL.eff rfl rfl rfl (X.call rfl Try.func45 (by kernel_rfl) rfl rfl (Fn.preE (by repeat first | (with_reducible apply Ent.refl) | (apply Ent.cons; case h => first | (with_reducible (repeat first | apply Pull.here | apply Pull.there); done) | (repeat first | apply Pull.here | apply Pull.there))) (wr.U32_fn b9 S.first _ (by show 12 ≤ _; decide) _))) ?_
    rintro _ _ ⟨rfl, rfl⟩
    refine TL.nil ?_
    refine TQ.next ?_
    refine TC.seq ?_
    refine TC.region ?_
    refine TL.val rfl rfl rfl (Y.move rfl rfl) ?_
    refine TL.val rfl rfl rfl (Y.move rfl rfl) ?_
    refine TL.val rfl rfl rfl (Y.move rfl rfl) ?_
    refine TL.eff rfl rfl rfl (X.call rfl Try.func49 (by kernel_rfl) rfl rfl (Fn.preE (by repeat first | (with_reducible apply Ent.refl) | (apply Ent.cons; case h => first | (with_reducible (repeat first | apply Pull.here | apply Pull.there); done) | (repeat first | apply Pull.here | apply Pull.there))) (cookie_fn b p S tag tsn hs _))) ?_
    rintro _ _ ⟨a41, c41, rfl, rfl⟩
    refine TL.eff rfl rfl rfl (X.call rfl Try.func48 (by kernel_rfl) rfl rfl (Fn.preE (by repeat first | (with_reducible apply Ent.refl) | (apply Ent.cons; case h => first | (with_reducible (repeat first | apply Pull.here | apply Pull.there); done) | (repeat first | apply Pull.here | apply Pull.there))) (wr.Bytes_fn (SA.owns 5 1 (.slice a41 36 c41) 36 ((cookieB S tag tsn).map v8)) b9 36 a41 c41 _ (cookieB S tag tsn) Reads.owns (cookieB_len S tag tsn) (by show 16 + 36 ≤ _; decide) _))) ?_
    rintro _ _ ⟨rfl, rfl⟩
    rw [show pkt tag 2 ++ be32 S.tag ++ be32 S.first ++ cookieB S tag tsn = S.initAckB tag tsn from rfl]
    refine TL.nil ?_
    refine TQ.next ?_
    refine TC.seq ?_
    refine TC.open pul ?_
    rintro ⟨wa, wc⟩
    refine TC.split pul ?_
    refine TC.region ?_
    refine TL.val rfl rfl rfl (Y.load rfl sc85 rfl celD) ?_
    refine TL.eff rfl rfl rfl (X.lit rfl el24 rfl rfl rfl (by decide) rfl) ?_
    rintro _ _ ⟨g44, rfl, rfl⟩
    refine TL.val rfl rfl rfl (Y.assign rfl rfl) ?_
    refine TL.val rfl rfl rfl (Y.assign rfl rfl) ?_
    refine TL.val rfl rfl rfl (Y.assign rfl rfl) ?_
    refine TL.nil ?_
    refine TQ.next ?_
    refine TC.ret ?_
    refine TQ.retE (resL rfl (Res.tmp rfl (Res.tmp rfl (Res.tmp rfl Res.nil)))) (⟨⟨some ⟨g44, 0, none⟩, 1, [⟨wa, wc, S.initAckB tag tsn⟩]⟩, rfl, rfl, rfl⟩) ?_
    exact (Ent.trans (Ent.one1 (a := wa) (g := g44) (l := S.initAckB tag tsn) pul pul rfl) ett)
theorem initialAck_no (rb : Nat) (l : List UInt8) (h : S.state ≠ 1) (L : List SA) :
    Fn Try.prog 32 [pt b 0, pt rb 0] (rd.R rb l false :: aB b p S :: L) (fun v L' => v = .tuple #[.slice none 0 0, .slice none 0 0, vN 9] ∧ L' = aB b p S :: L) := by
  refine Fn.of (N := 47) Try.func32 rfl rfl ?_
  intro Xh
  refine TC.seq ?_
  refine TC.region ?_
  refine TL.val rfl rfl rfl (Y.assign rfl rfl) ?_
  refine TL.val rfl rfl rfl (Y.assign rfl rfl) ?_
  refine TL.val rfl rfl rfl (Y.assign rfl rfl) ?_
  refine TL.nil ?_
  refine TQ.next ?_
  refine TC.seq ?_
  refine TC.seq ?_
  refine TC.region ?_
  refine TL.val rfl rfl rfl (Y.move rfl rfl) ?_
  refine TL.val rfl rfl rfl (Y.nilCheck rfl rfl) ?_
  refine TL.val rfl rfl rfl (by first | exact Y.fieldAddrJ rfl fo68_3 rfl nqq | exact Y.fieldAddr rfl fo68_3 rfl nqq) ?_
  refine TL.val rfl rfl rfl (Y.load rfl sc3 rfl celN) ?_
  refine TL.as (vN S.state) (by rfl) ?_
  refine TL.val rfl rfl rfl (Y.bin rfl rfl rfl (br_neN (n := 1))) ?_
  refine TL.is true (by simpa using h) ?_
  refine TL.nil ?_
  refine TQ.next ?_
  refine TC.cond_t rfl ?_
  refine TC.seq ?_
  refine TC.region ?_
  refine TL.val rfl rfl rfl (Y.assign rfl rfl) ?_
  refine TL.val rfl rfl rfl (Y.assign rfl rfl) ?_
  refine TL.val rfl rfl rfl (Y.assign rfl rfl) ?_
  refine TL.nil ?_
  refine TQ.next ?_
  refine TC.ret ?_
  refine TQ.then_ret ?_
  refine TQ.retE (resL rfl (Res.tmp rfl (Res.tmp rfl (Res.tmp rfl Res.nil)))) (⟨rfl, rfl⟩) ?_
  exact ett
set_option maxHeartbeats 1000000 in
theorem initialAck_yes (rb : Nat) (l : List UInt8) (hl : l.length = 44) (h : S.state = 1) (L : List SA) :
    Fn Try.prog 32 [pt b 0, pt rb 0] (rd.R rb l false :: aB b p S :: L)
      (fun v L' => ∃ (o : Sl Bs) (ha : Option Addr) (hc : Nat), v = .tuple #[o.v, .slice none 0 0, vN 0] ∧ o.l.map (·.l) = [echoB (num (l.take 4)) (l.drop 8)] ∧
        L' = SA.dat o :: aB b { p with ha := ha, hc := hc } (S.echo (num (l.take 4)) (num ((l.drop 4).take 4)) (l.drop 8)) :: aH { p with ha := ha, hc := hc } (S.echo (num (l.take 4)) (num ((l.drop 4).take 4)) (l.drop 8)) :: L) := by
  obtain ⟨tag, htag⟩ : ∃ t, t = num (l.take 4) := ⟨_, rfl⟩
  obtain ⟨tsn, htsn⟩ : ∃ t, t = num ((l.drop 4).take 4) := ⟨_, rfl⟩
  obtain ⟨c, hc⟩ : ∃ c, c = l.drop 8 := ⟨_, rfl⟩
  have hcl : c.length = 36 := by rw [hc, List.length_drop]; omega
  have hel : (echoB tag c).length = 44 := by rw [echoB, List.length_append, hcl]; rfl
  rw [← htag, ← htsn, ← hc]
  refine Fn.of (N := 47) Try.func32 rfl rfl ?_
  intro Xh
  refine TC.seq ?_
  refine TC.region ?_
  refine TL.val rfl rfl rfl (Y.assign rfl rfl) ?_
  refine TL.val rfl rfl rfl (Y.assign rfl rfl) ?_
  refine TL.val rfl rfl rfl (Y.assign rfl rfl) ?_
  refine TL.nil ?_
  refine TQ.next ?_
  refine TC.seq ?_
  refine TC.seq ?_
  refine TC.region ?_
  refine TL.val rfl rfl rfl (Y.move rfl rfl) ?_
  refine TL.val rfl rfl rfl (Y.nilCheck rfl rfl) ?_
  refine TL.val rfl rfl rfl (by first | exact Y.fieldAddrJ rfl fo68_3 rfl nqq | exact Y.fieldAddr rfl fo68_3 rfl nqq) ?_
  refine TL.val rfl rfl rfl (Y.load rfl sc3 rfl celN) ?_
  refine TL.as (vN S.state) (by rfl) ?_
  refine TL.val rfl rfl rfl (Y.bin rfl rfl rfl (br_neN (n := 1))) ?_
  refine TL.is false (by simpa using h) ?_
  refine TL.nil ?_
  refine TQ.next ?_
  refine TC.cond_f rfl ?_
  refine TC.skip ?_
  refine TQ.next ?_
  refine TC.seq ?_
  refine TC.region ?_
  refine TL.val rfl rfl rfl (Y.move rfl rfl) ?_
  refine TL.val rfl rfl rfl (Y.move rfl rfl) ?_
  refine TL.val rfl rfl rfl (Y.move rfl rfl) ?_
  refine TL.val rfl rfl rfl (Y.move rfl rfl) ?_
  refine TL.eff rfl rfl rfl (X.call rfl Try.func27 (by kernel_rfl) rfl rfl (Fn.preE (by repeat first | (with_reducible apply Ent.refl) | (apply Ent.cons; case h => first | (with_reducible (repeat first | apply Pull.here | apply Pull.there); done) | (repeat first | apply Pull.here | apply Pull.there))) (u32_ok rb l (by omega) _))) ?_
  rintro _ _ ⟨rfl, rfl⟩
  rw [← htag]
  refine TL.val rfl rfl rfl (Y.move rfl rfl) ?_
  refine TL.eff rfl rfl rfl (X.call rfl Try.func27 (by kernel_rfl) rfl rfl (Fn.preE (by repeat first | (with_reducible apply Ent.refl) | (apply Ent.cons; case h => first | (with_reducible (repeat first | apply Pull.here | apply Pull.there); done) | (repeat first | apply Pull.here | apply Pull.there))) (u32_ok rb (l.drop 4) (by rw [List.length_drop]; omega) _))) ?_
  rintro _ _ ⟨rfl, rfl⟩
  rw [← htsn, List.drop_drop, ← hc]
  refine TL.val rfl rfl rfl (Y.bin rfl rfl rfl (br_sub32 (y := 1))) ?_
  refine TL.val rfl rfl rfl (Y.nilCheck rfl rfl) ?_
  refine TL.val rfl rfl rfl (by first | exact Y.fieldAddrJ rfl fo68_4 rfl nqq | exact Y.fieldAddr rfl fo68_4 rfl nqq) ?_
  refine TL.eff0 rfl rfl (X.store (cs' := asC p { S with known := true }) rfl (by kernel_rfl) rfl rfl rfl pul (by show 4 < 17; decide) rfl) ?_
  rintro _ _ rfl
  refine TL.val rfl rfl rfl (Y.nilCheck rfl rfl) ?_
  refine TL.val rfl rfl rfl (by first | exact Y.fieldAddrJ rfl fo68_5 rfl nqq | exact Y.fieldAddr rfl fo68_5 rfl nqq) ?_
  refine TL.eff0 rfl rfl (X.store (cs' := asC p { S with known := true, other := tag }) rfl (by kernel_rfl) rfl rfl rfl pul (by show 5 < 17; decide) rfl) ?_
  rintro _ _ rfl
  refine TL.val rfl rfl rfl (Y.nilCheck rfl rfl) ?_
  refine TL.val rfl rfl rfl (by first | exact Y.fieldAddrJ rfl fo68_6 rfl nqq | exact Y.fieldAddr rfl fo68_6 rfl nqq) ?_
  refine TL.eff0 rfl rfl (X.store (cs' := asC p { S with known := true, other := tag, top := tsn - 1 }) rfl (by kernel_rfl) rfl rfl rfl pul (by show 6 < 17; decide) rfl) ?_
  rintro _ _ rfl
  refine TL.nil ?_
  refine TQ.next ?_
  refine TC.seq ?_
  refine TC.region ?_
  refine TL.val rfl rfl rfl (Y.move rfl rfl) ?_
  refine TL.val rfl rfl rfl (Y.nilCheck rfl rfl) ?_
  refine TL.val rfl rfl rfl (by first | exact Y.fieldAddrJ rfl fo68_5 rfl nqq | exact Y.fieldAddr rfl fo68_5 rfl nqq) ?_
  refine TL.val rfl rfl rfl (Y.load rfl sc22 rfl cel32) ?_
  refine TL.as (v32 tag) (by rfl) ?_
  refine TL.eff rfl rfl rfl (X.call rfl Try.func44 (by kernel_rfl) rfl rfl (Fn.preE (by repeat first | (with_reducible apply Ent.refl) | (apply Ent.cons; case h => first | (with_reducible (repeat first | apply Pull.here | apply Pull.there); done) | (repeat first | apply Pull.here | apply Pull.there))) (packet_fn tag 3 _))) ?_
  rintro _ _ ⟨a31, c31, rfl, rfl⟩
  refine TL.eff rfl rfl rfl (X.alloc rfl zc85) ?_
  rintro _ _ ⟨b7, rfl, rfl⟩
  refine TL.eff0 rfl rfl (by first | exact X.store rfl sz85 rfl rfl rfl pul lnn (by first | exact setM | rfl) | exact X.storeOwn rfl sz85 rfl (Nat.zero_add _).symm rfl rfl pul lnn (by first | exact setML | rfl) | exact X.storeOwn rfl sz85 rfl rfl rfl rfl pul lnn (by first | exact setML | rfl)) ?_
  rintro _ _ rfl
  refine TL.nil ?_
  refine TQ.to (wr.put (b := b7) pul (by rfl) pul (l := pkt tag 3) rfl rfl Ent.refl) ?_
  refine TQ.next ?_
  refine TC.seq ?_
  refine TC.region ?_
  refine TL.val rfl rfl rfl (Y.move rfl rfl) ?_
  refine TL.eff rfl rfl rfl (X.call rfl Try.func35 (by kernel_rfl) rfl rfl (Fn.preE (by repeat first | (with_reducible apply Ent.refl) | (apply Ent.cons; case h => first | (with_reducible (repeat first | apply Pull.here | apply Pull.there); done) | (repeat first | apply Pull.here | apply Pull.there))) (take_ok rb 36 c (by omega) (by omega) _))) ?_
  rintro _ _ ⟨a33, c33, rfl, rfl⟩
  rw [List.take_of_length_le (by omega : c.length ≤ 36)]
  refine TL.eff rfl rfl rfl (X.call rfl Try.func48 (by kernel_rfl) rfl rfl (Fn.preE (by repeat first | (with_reducible apply Ent.refl) | (apply Ent.cons; case h => first | (with_reducible (repeat first | apply Pull.here | apply Pull.there); done) | (repeat first | apply Pull.here | apply Pull.there))) (wr.Bytes_fn (SA.owns 5 1 (.slice a33 36 c33) 36 (c.map v8)) b7 36 a33 c33 _ c Reads.owns hcl (by show 8 + 36 ≤ _; decide) _))) ?_
  rintro _ _ ⟨rfl, rfl⟩
  rw [show pkt tag 3 ++ c = echoB tag c from rfl]
  refine TL.nil ?_
  refine TQ.next ?_
  refine TC.seq ?_
  refine TC.open pul ?_
  rintro ⟨wa, wc⟩
  refine TC.split pul ?_
  refine TC.to ((Pull.ent (A := SA.owns 5 1 (.slice wa (echoB tag c).length wc) (echoB tag c).length ((echoB tag c).map v8)) pul).trans Ent.freeze) ?_
  refine TC.region ?_
  refine TL.val rfl rfl rfl (Y.move rfl rfl) ?_
  refine TL.val rfl rfl rfl (Y.move rfl rfl) ?_
  refine TL.val rfl rfl rfl (Y.load rfl sc85 rfl celD) ?_
  refine TL.val rfl rfl rfl (Y.nilCheck rfl rfl) ?_
  refine TL.val rfl rfl rfl (by first | exact Y.fieldAddrJ rfl fo68_3 rfl nqq | exact Y.fieldAddr rfl fo68_3 rfl nqq) ?_
  refine TL.eff0 rfl rfl (X.store (cs' := asC p { S with known := true, other := tag, top := tsn - 1, state := 2 }) rfl (by kernel_rfl) rfl rfl rfl pul (by show 3 < 17; decide) rfl) ?_
  rintro _ _ rfl
  refine TL.val rfl rfl rfl (Y.nilCheck rfl rfl) ?_
  refine TL.val rfl rfl rfl (by first | exact Y.fieldAddrJ rfl fo68_13 rfl nqq | exact Y.fieldAddr rfl fo68_13 rfl nqq) ?_
  refine TL.eff0 rfl rfl (X.store (cs' := asC { p with ha := wa, hc := wc } { S with known := true, other := tag, top := tsn - 1, state := 2, shake := echoB tag c }) rfl (by kernel_rfl) rfl rfl rfl pul (by show 16 < 17; decide) rfl) ?_
  rintro _ _ rfl
  refine TL.nil ?_
  refine TQ.next ?_
  refine TC.seq ?_
  refine TC.region ?_
  refine TL.val rfl rfl rfl (Y.move rfl rfl) ?_
  refine TL.eff rfl rfl rfl (X.call rfl Try.func46 (by kernel_rfl) rfl rfl (Fn.preE (by repeat first | (with_reducible apply Ent.refl) | (apply Ent.cons; case h => first | (with_reducible (repeat first | apply Pull.here | apply Pull.there); done) | (repeat first | apply Pull.here | apply Pull.there))) (start_fn b { p with ha := wa, hc := wc } { S with known := true, other := tag, top := tsn - 1, state := 2, shake := echoB tag c } _))) ?_
  rintro _ _ ⟨rfl, rfl⟩
  refine TL.nil ?_
  refine TQ.next ?_
  refine TC.seq ?_
  refine TC.region ?_
  refine TL.val rfl rfl rfl (Y.load rfl sc85 rfl celD) ?_
  refine TL.eff rfl rfl rfl (X.call rfl Try.func25 (by kernel_rfl) rfl rfl (Fn.preE (by repeat first | (with_reducible apply Ent.refl) | (apply Ent.cons; case h => first | (with_reducible (repeat first | apply Pull.here | apply Pull.there); done) | (repeat first | apply Pull.here | apply Pull.there))) (rd.Clone_fn _ _ _ (echoB tag c) rfl (by omega) _))) ?_
  rintro _ _ ⟨a45, c45, rfl, rfl⟩
  refine TL.eff rfl rfl rfl (X.lit rfl el24 rfl rfl rfl (by decide) rfl) ?_
  rintro _ _ ⟨g46, rfl, rfl⟩
  refine TL.val rfl rfl rfl (Y.assign rfl rfl) ?_
  refine TL.val rfl rfl rfl (Y.assign rfl rfl) ?_
  refine TL.val rfl rfl rfl (Y.assign rfl rfl) ?_
  refine TL.nil ?_
  refine TQ.next ?_
  refine TC.ret ?_
  refine TQ.retE (resL rfl (Res.tmp rfl (Res.tmp rfl (Res.tmp rfl Res.nil)))) (⟨⟨some ⟨g46, 0, none⟩, 1, [⟨a45, c45, echoB tag c⟩]⟩, wa, wc, rfl, rfl, rfl⟩) ?_
  exact (Ent.trans (Ent.one1 (a := a45) (g := g46) (l := echoB tag c) pul pul rfl) ett)
end
end ac
end Go.Proofs.Ytomplpdeeomehaa

/- assoc: cookied and receive, walked. -/
namespace Go.Proofs.Ytomplpdeeomehaa
set_option linter.unusedVariables false
set_option linter.unusedSimpArgs false
open Go.RowKit
namespace ac
open wr (be16 be32)
open rd (num rdB rdL rdV)
namespace FxAsF
set_option maxRecDepth 100000
theorem el24 : Elt Try.prog 24 23 1 24 (.slice none 0 0) := ⟨Try.underlying24, by kernel_rfl, rfl, by decide, by simp [Value.cells, Value.oneCell']⟩
theorem fo68_3 : Program.fieldOff Try.prog 68 3 = some 3 := by kernel_rfl
theorem fo68_4 : Program.fieldOff Try.prog 68 4 = some 4 := by kernel_rfl
theorem fo68_5 : Program.fieldOff Try.prog 68 5 = some 5 := by kernel_rfl
theorem fo68_6 : Program.fieldOff Try.prog 68 6 = some 6 := by kernel_rfl
theorem sc22 : Program.isSc Try.prog 22 = true := by kernel_rfl
theorem sc3 : Program.isSc Try.prog 3 = true := by kernel_rfl
end FxAsF
open FxAsF
theorem Equal_fn (A B : SA) (a : Option Addr) (n cap : Nat) (x : List UInt8) (b : Option Addr) (m cb : Nat) (y : List UInt8) (hA : Reads A 1 (.slice a n cap) n (x.map v8)) (hB : Reads B 1 (.slice b m cb) m (y.map v8)) (L : List SA) :
    Fn Try.prog 50 [.slice a n cap, .slice b m cb] (A :: B :: L) (fun v L' => v = .bool (decide (x = y)) ∧ L' = A :: B :: L) := by
  refine Fn.of (N := 10) Try.func50 rfl rfl ?_
  intro Xh
  refine TC.seq ?_
  refine TC.region ?_
  refine TL.val rfl rfl rfl (Y.assign rfl rfl) ?_
  refine TL.nil ?_
  refine TQ.next ?_
  refine TC.seq ?_
  refine TC.region ?_
  refine TL.val rfl rfl rfl (Y.move rfl rfl) ?_
  refine TL.val rfl rfl rfl (by first | exact Y.str rfl Try.underlying23 Try.underlying9 Try.underlying5 rfl Reads.rds inn | exact Y.str rfl Try.underlying23 Try.underlying9 Try.underlying5 rfl Reads.owns inn | exact Y.str rfl Try.underlying23 Try.underlying9 Try.underlying5 rfl (by assumption) inn) ?_
  refine TL.val rfl rfl rfl (Y.move rfl rfl) ?_
  refine TL.val rfl rfl rfl (by first | exact Y.str rfl Try.underlying23 Try.underlying9 Try.underlying5 rfl Reads.rds inn | exact Y.str rfl Try.underlying23 Try.underlying9 Try.underlying5 rfl Reads.owns inn | exact Y.str rfl Try.underlying23 Try.underlying9 Try.underlying5 rfl (by assumption) inn) ?_
  refine TL.val rfl rfl rfl (Y.eqStr rfl rfl rfl) ?_
  refine TL.val rfl rfl rfl (Y.assign rfl rfl) ?_
  refine TL.nil ?_
  refine TQ.next ?_
  refine TC.ret ?_
  refine TQ.retE (res1 rfl rfl) (⟨rfl, rfl⟩) ?_
  exact ett
section
variable (b : Nat) (p : AP) (S : AS Msg) (rb : Nat) (c : List UInt8) (hc : c.length = 36) (hs : S.secret.length ≤ 140737488351232)
include hc hs
theorem cookied_bad (h : c ≠ cookieB S (num (c.take 4)) (num ((c.drop 4).take 4))) (L : List SA) :
    Fn Try.prog 33 [pt b 0, pt rb 0] (rd.R rb c false :: aB b p S :: aS p S :: L) (fun v L' => v = .tuple #[.slice none 0 0, .slice none 0 0, vN 4] ∧ L' = aB b p S :: aS p S :: L) := by
  refine Fn.of (N := 68) Try.func33 rfl rfl ?_
  intro Xh
  obtain ⟨tag, htag⟩ : ∃ t, t = num (c.take 4) := ⟨_, rfl⟩
  obtain ⟨tsn, htsn⟩ : ∃ t, t = num ((c.drop 4).take 4) := ⟨_, rfl⟩
  rw [← htag, ← htsn] at h
  try rw [← htag]
  try rw [← htsn]
  try rw [← htag] at h3
  try rw [← htag] at ho
  refine TC.seq ?_
  refine TC.region ?_
  refine TL.val rfl rfl rfl (Y.assign rfl rfl) ?_
  refine TL.val rfl rfl rfl (Y.assign rfl rfl) ?_
  refine TL.val rfl rfl rfl (Y.assign rfl rfl) ?_
  refine TL.nil ?_
  refine TQ.next ?_
  refine TC.seq ?_
  refine TC.region ?_
  refine TL.val rfl rfl rfl (Y.move rfl rfl) ?_
  refine TL.eff rfl rfl rfl (X.call rfl Try.func35 (by kernel_rfl) rfl rfl (Fn.preE (by repeat first | (with_reducible apply Ent.refl) | (apply Ent.cons; case h => first | (with_reducible (repeat first | apply Pull.here | apply Pull.there); done) | (repeat first | apply Pull.here | apply Pull.there))) (take_ok rb 36 c (by omega) (by omega) _))) ?_
  rintro _ _ ⟨a12, c12, rfl, rfl⟩
  rw [List.take_of_length_le (by omega : c.length ≤ 36)]
  refine TL.val rfl rfl rfl (Y.assign rfl rfl) ?_
  refine TL.nil ?_
  refine TQ.next ?_
  refine TC.seq ?_
  refine TC.to ((Pull.ent (A := SA.owns 5 1 (.slice a12 36 c12) 36 (c.map v8)) pul).trans Ent.freeze) ?_
  refine TC.region ?_
  refine TL.val rfl rfl rfl (Y.move rfl rfl) ?_
  refine TL.eff rfl rfl rfl (X.call rfl Try.func26 (by kernel_rfl) rfl rfl (Fn.preE (by repeat first | (with_reducible apply Ent.refl) | (apply Ent.cons; case h => first | (with_reducible (repeat first | apply Pull.here | apply Pull.there); done) | (repeat first | apply Pull.here | apply Pull.there))) (rd.New_fn a12 36 c12 c hc (by decide) _))) ?_
  rintro _ _ ⟨p14, rfl, rfl⟩
  refine TL.val rfl rfl rfl (Y.assign rfl rfl) ?_
  refine TL.nil ?_
  refine TQ.next ?_
  refine TC.seq ?_
  refine TC.region ?_
  refine TL.val rfl rfl rfl (Y.move rfl rfl) ?_
  refine TL.eff rfl rfl rfl (X.call rfl Try.func27 (by kernel_rfl) rfl rfl (Fn.preE (by repeat first | (with_reducible apply Ent.refl) | (apply Ent.cons; case h => first | (with_reducible (repeat first | apply Pull.here | apply Pull.there); done) | (repeat first | apply Pull.here | apply Pull.there))) (u32_ok p14 c (by omega) _))) ?_
  rintro _ _ ⟨rfl, rfl⟩
  rw [← htag]
  refine TL.val rfl rfl rfl (Y.move rfl rfl) ?_
  refine TL.eff rfl rfl rfl (X.call rfl Try.func27 (by kernel_rfl) rfl rfl (Fn.preE (by repeat first | (with_reducible apply Ent.refl) | (apply Ent.cons; case h => first | (with_reducible (repeat first | apply Pull.here | apply Pull.there); done) | (repeat first | apply Pull.here | apply Pull.there))) (u32_ok p14 (c.drop 4) (by rw [List.length_drop]; omega) _))) ?_
  rintro _ _ ⟨rfl, rfl⟩
  rw [← htsn]
  refine TL.val rfl rfl rfl (Y.assign rfl rfl) ?_
  refine TL.val rfl rfl rfl (Y.assign rfl rfl) ?_
  refine TL.nil ?_
  refine TQ.next ?_
  refine TC.seq ?_
  refine TC.block ?_
  refine TC.seq ?_
  refine TC.region ?_
  refine TL.val rfl rfl rfl (Y.move rfl rfl) ?_
  refine TL.val rfl rfl rfl (Y.move rfl rfl) ?_
  refine TL.val rfl rfl rfl (Y.move rfl rfl) ?_
  refine TL.val rfl rfl rfl (Y.move rfl rfl) ?_
  refine TL.eff rfl rfl rfl (X.call rfl Try.func49 (by kernel_rfl) rfl rfl (Fn.preE (by repeat first | (with_reducible apply Ent.refl) | (apply Ent.cons; case h => first | (with_reducible (repeat first | apply Pull.here | apply Pull.there); done) | (repeat first | apply Pull.here | apply Pull.there))) (cookie_fn b p S tag tsn hs _))) ?_
  rintro _ _ ⟨a24, c24, rfl, rfl⟩
  refine TL.eff rfl rfl rfl (X.call rfl Try.func50 (by kernel_rfl) rfl rfl (Fn.preE (by repeat first | (with_reducible apply Ent.refl) | (apply Ent.cons; case h => first | (with_reducible (repeat first | apply Pull.here | apply Pull.there); done) | (repeat first | apply Pull.here | apply Pull.there))) (Equal_fn (SA.rds 1 (.slice a12 36 c12) 36 (c.map v8)) (SA.owns 5 1 (.slice a24 36 c24) 36 ((cookieB S tag tsn).map v8)) a12 36 c12 c a24 36 c24 (cookieB S tag tsn) Reads.rds Reads.owns _))) ?_
  rintro _ _ ⟨rfl, rfl⟩
  refine TL.val rfl rfl rfl (Y.not rfl rfl) ?_
  refine TL.is true (by (rw [decide_eq_false h]; rfl)) ?_
  refine TL.val rfl rfl rfl (Y.assign rfl rfl) ?_
  refine TL.nil ?_
  refine TQ.next ?_
  refine TC.cond_t rfl ?_
  refine TC.seq ?_
  refine TC.region ?_
  refine TL.val rfl rfl rfl (Y.assign rfl rfl) ?_
  refine TL.val rfl rfl rfl (Y.assign rfl rfl) ?_
  refine TL.val rfl rfl rfl (Y.assign rfl rfl) ?_
  refine TL.nil ?_
  refine TQ.next ?_
  refine TC.ret ?_
  refine TQ.block_ret ?_
  refine TQ.then_ret ?_
  refine TQ.retE (resL rfl (Res.tmp rfl (Res.tmp rfl (Res.tmp rfl Res.nil)))) (⟨rfl, rfl⟩) ?_
  exact ett
theorem cookied_open (h : c = cookieB S (num (c.take 4)) (num ((c.drop 4).take 4))) (h0 : S.state = 0) (L : List SA) :
    Fn Try.prog 33 [pt b 0, pt rb 0] (rd.R rb c false :: aB b p S :: aS p S :: L)
      (fun v L' => ∃ o : Sl Bs, v = .tuple #[o.v, .slice none 0 0, vN 0] ∧ o.l.map (·.l) = [pkt (num (c.take 4)) 4] ∧ L' = SA.dat o :: aB b p (S.opened (num (c.take 4)) (num ((c.drop 4).take 4))) :: aS p S :: L) := by
  refine Fn.of (N := 68) Try.func33 rfl rfl ?_
  intro Xh
  obtain ⟨tag, htag⟩ : ∃ t, t = num (c.take 4) := ⟨_, rfl⟩
  obtain ⟨tsn, htsn⟩ : ∃ t, t = num ((c.drop 4).take 4) := ⟨_, rfl⟩
  rw [← htag, ← htsn] at h
  try rw [← htag]
  try rw [← htsn]
  try rw [← htag] at h3
  try rw [← htag] at ho
  refine TC.seq ?_
  refine TC.region ?_
  refine TL.val rfl rfl rfl (Y.assign rfl rfl) ?_
  refine TL.val rfl rfl rfl (Y.assign rfl rfl) ?_
  refine TL.val rfl rfl rfl (Y.assign rfl rfl) ?_
  refine TL.nil ?_
  refine TQ.next ?_
  refine TC.seq ?_
  refine TC.region ?_
  refine TL.val rfl rfl rfl (Y.move rfl rfl) ?_
  refine TL.eff rfl rfl rfl (X.call rfl Try.func35 (by kernel_rfl) rfl rfl (Fn.preE (by repeat first | (with_reducible apply Ent.refl) | (apply Ent.cons; case h => first | (with_reducible (repeat first | apply Pull.here | apply Pull.there); done) | (repeat first | apply Pull.here | apply Pull.there))) (take_ok rb 36 c (by omega) (by omega) _))) ?_
  rintro _ _ ⟨a12, c12, rfl, rfl⟩
  rw [List.take_of_length_le (by omega : c.length ≤ 36)]
  refine TL.val rfl rfl rfl (Y.assign rfl rfl) ?_
  refine TL.nil ?_
  refine TQ.next ?_
  refine TC.seq ?_
  refine TC.to ((Pull.ent (A := SA.owns 5 1 (.slice a12 36 c12) 36 (c.map v8)) pul).trans Ent.freeze) ?_
  refine TC.region ?_
  refine TL.val rfl rfl rfl (Y.move rfl rfl) ?_
  refine TL.eff rfl rfl rfl (X.call rfl Try.func26 (by kernel_rfl) rfl rfl (Fn.preE (by repeat first | (with_reducible apply Ent.refl) | (apply Ent.cons; case h => first | (with_reducible (repeat first | apply Pull.here | apply Pull.there); done) | (repeat first | apply Pull.here | apply Pull.there))) (rd.New_fn a12 36 c12 c hc (by decide) _))) ?_
  rintro _ _ ⟨p14, rfl, rfl⟩
  refine TL.val rfl rfl rfl (Y.assign rfl rfl) ?_
  refine TL.nil ?_
  refine TQ.next ?_
  refine TC.seq ?_
  refine TC.region ?_
  refine TL.val rfl rfl rfl (Y.move rfl rfl) ?_
  refine TL.eff rfl rfl rfl (X.call rfl Try.func27 (by kernel_rfl) rfl rfl (Fn.preE (by repeat first | (with_reducible apply Ent.refl) | (apply Ent.cons; case h => first | (with_reducible (repeat first | apply Pull.here | apply Pull.there); done) | (repeat first | apply Pull.here | apply Pull.there))) (u32_ok p14 c (by omega) _))) ?_
  rintro _ _ ⟨rfl, rfl⟩
  rw [← htag]
  refine TL.val rfl rfl rfl (Y.move rfl rfl) ?_
  refine TL.eff rfl rfl rfl (X.call rfl Try.func27 (by kernel_rfl) rfl rfl (Fn.preE (by repeat first | (with_reducible apply Ent.refl) | (apply Ent.cons; case h => first | (with_reducible (repeat first | apply Pull.here | apply Pull.there); done) | (repeat first | apply Pull.here | apply Pull.there))) (u32_ok p14 (c.drop 4) (by rw [List.length_drop]; omega) _))) ?_
  rintro _ _ ⟨rfl, rfl⟩
  rw [← htsn]
  refine TL.val rfl rfl rfl (Y.assign rfl rfl) ?_
  refine TL.val rfl rfl rfl (Y.assign rfl rfl) ?_
  refine TL.nil ?_
  refine TQ.next ?_
  refine TC.seq ?_
  refine TC.block ?_
  refine TC.seq ?_
  refine TC.region ?_
  refine TL.val rfl rfl rfl (Y.move rfl rfl) ?_
  refine TL.val rfl rfl rfl (Y.move rfl rfl) ?_
  refine TL.val rfl rfl rfl (Y.move rfl rfl) ?_
  refine TL.val rfl rfl rfl (Y.move rfl rfl) ?_
  refine TL.eff rfl rfl rfl (X.call rfl Try.func49 (by kernel_rfl) rfl rfl (Fn.preE (by repeat first | (with_reducible apply Ent.refl) | (apply Ent.cons; case h => first | (with_reducible (repeat first | apply Pull.here | apply Pull.there); done) | (repeat first | apply Pull.here | apply Pull.there))) (cookie_fn b p S tag tsn hs _))) ?_
  rintro _ _ ⟨a24, c24, rfl, rfl⟩
  refine TL.eff rfl rfl rfl (X.call rfl Try.func50 (by kernel_rfl) rfl rfl (Fn.preE (by repeat first | (with_reducible apply Ent.refl) | (apply Ent.cons; case h => first | (with_reducible (repeat first | apply Pull.here | apply Pull.there); done) | (repeat first | apply Pull.here | apply Pull.there))) (Equal_fn (SA.rds 1 (.slice a12 36 c12) 36 (c.map v8)) (SA.owns 5 1 (.slice a24 36 c24) 36 ((cookieB S tag tsn).map v8)) a12 36 c12 c a24 36 c24 (cookieB S tag tsn) Reads.rds Reads.owns _))) ?_
  rintro _ _ ⟨rfl, rfl⟩
  refine TL.val rfl rfl rfl (Y.not rfl rfl) ?_
  refine TL.is false (by (rw [decide_eq_true h]; rfl)) ?_
  refine TL.val rfl rfl rfl (Y.assign rfl rfl) ?_
  refine TL.nil ?_
  refine TQ.next ?_
  refine TC.cond_f rfl ?_
  refine TC.seq ?_
  refine TC.region ?_
  refine TL.val rfl rfl rfl (Y.move rfl rfl) ?_
  refine TL.val rfl rfl rfl (Y.nilCheck rfl rfl) ?_
  refine TL.val rfl rfl rfl (by first | exact Y.fieldAddrJ rfl fo68_3 rfl nqq | exact Y.fieldAddr rfl fo68_3 rfl nqq) ?_
  refine TL.val rfl rfl rfl (Y.load rfl sc3 rfl celN) ?_
  refine TL.as (vN S.state) (by rfl) ?_
  refine TL.val rfl rfl rfl (Y.bin rfl rfl rfl (br_eqN (n := 0))) ?_
  refine TL.is true (by simpa using h0) ?_
  refine TL.val rfl rfl rfl (Y.assign rfl rfl) ?_
  refine TL.nil ?_
  refine TQ.next ?_
  refine TC.cond_t rfl ?_
  refine TC.region ?_
  refine TL.val rfl rfl rfl (Y.move rfl rfl) ?_
  refine TL.val rfl rfl rfl (Y.move rfl rfl) ?_
  refine TL.val rfl rfl rfl (Y.move rfl rfl) ?_
  refine TL.val rfl rfl rfl (Y.move rfl rfl) ?_
  refine TL.val rfl rfl rfl (Y.move rfl rfl) ?_
  refine TL.val rfl rfl rfl (Y.move rfl rfl) ?_
  refine TL.val rfl rfl rfl (Y.bin rfl rfl rfl (br_sub32 (y := 1))) ?_
  refine TL.val rfl rfl rfl (Y.nilCheck rfl rfl) ?_
  refine TL.val rfl rfl rfl (by first | exact Y.fieldAddrJ rfl fo68_3 rfl nqq | exact Y.fieldAddr rfl fo68_3 rfl nqq) ?_
  refine TL.eff0 rfl rfl (X.store (cs' := asC p { S with state := 3 }) rfl (by kernel_rfl) rfl rfl rfl pul (by show 3 < 17; decide) rfl) ?_
  rintro _ _ rfl
  refine TL.val rfl rfl rfl (Y.nilCheck rfl rfl) ?_
  refine TL.val rfl rfl rfl (by first | exact Y.fieldAddrJ rfl fo68_4 rfl nqq | exact Y.fieldAddr rfl fo68_4 rfl nqq) ?_
  refine TL.eff0 rfl rfl (X.store (cs' := asC p { S with state := 3, known := true }) rfl (by kernel_rfl) rfl rfl rfl pul (by show 4 < 17; decide) rfl) ?_
  rintro _ _ rfl
  refine TL.val rfl rfl rfl (Y.nilCheck rfl rfl) ?_
  refine TL.val rfl rfl rfl (by first | exact Y.fieldAddrJ rfl fo68_5 rfl nqq | exact Y.fieldAddr rfl fo68_5 rfl nqq) ?_
  refine TL.eff0 rfl rfl (X.store (cs' := asC p { S with state := 3, known := true, other := tag }) rfl (by kernel_rfl) rfl rfl rfl pul (by show 5 < 17; decide) rfl) ?_
  rintro _ _ rfl
  refine TL.val rfl rfl rfl (Y.nilCheck rfl rfl) ?_
  refine TL.val rfl rfl rfl (by first | exact Y.fieldAddrJ rfl fo68_6 rfl nqq | exact Y.fieldAddr rfl fo68_6 rfl nqq) ?_
  refine TL.eff0 rfl rfl (X.store (cs' := asC p (S.opened tag tsn)) rfl (by kernel_rfl) rfl rfl rfl pul (by show 6 < 17; decide) rfl) ?_
  rintro _ _ rfl
  refine TL.nil ?_
  refine TQ.block_normal ?_
  refine TQ.next ?_
  refine TC.seq ?_
  refine TC.region ?_
  refine TL.val rfl rfl rfl (Y.move rfl rfl) ?_
  refine TL.val rfl rfl rfl (Y.nilCheck rfl rfl) ?_
  refine TL.val rfl rfl rfl (by first | exact Y.fieldAddrJ rfl fo68_5 rfl nqq | exact Y.fieldAddr rfl fo68_5 rfl nqq) ?_
  refine TL.val rfl rfl rfl (Y.load rfl sc22 rfl cel32) ?_
  refine TL.as (v32 tag) (by rfl) ?_
  refine TL.eff rfl rfl rfl (X.call rfl Try.func44 (by kernel_rfl) rfl rfl (Fn.preE (by repeat first | (with_reducible apply Ent.refl) | (apply Ent.cons; case h => first | (with_reducible (repeat first | apply Pull.here | apply Pull.there); done) | (repeat first | apply Pull.here | apply Pull.there))) (packet_fn tag 4 _))) ?_
  rintro _ _ ⟨a66, c66, rfl, rfl⟩
  refine TL.eff rfl rfl rfl (X.lit rfl el24 rfl rfl rfl (by decide) rfl) ?_
  rintro _ _ ⟨g67, rfl, rfl⟩
  refine TL.val rfl rfl rfl (Y.assign rfl rfl) ?_
  refine TL.val rfl rfl rfl (Y.assign rfl rfl) ?_
  refine TL.val rfl rfl rfl (Y.assign rfl rfl) ?_
  refine TL.nil ?_
  refine TQ.next ?_
  refine TC.ret ?_
  refine TQ.retE (resL rfl (Res.tmp rfl (Res.tmp rfl (Res.tmp rfl Res.nil)))) (⟨⟨some ⟨g67, 0, none⟩, 1, [⟨a66, c66, pkt tag 4⟩]⟩, rfl, rfl, rfl⟩) ?_
  exact (Ent.trans (Ent.one1 (a := a66) (g := g67) (n := 8) (l := pkt tag 4) pul pul rfl) ett)
theorem cookied_no (h : c = cookieB S (num (c.take 4)) (num ((c.drop 4).take 4))) (h0 : S.state ≠ 0) (h3 : S.state ≠ 3 ∨ S.other ≠ num (c.take 4)) (L : List SA) :
    Fn Try.prog 33 [pt b 0, pt rb 0] (rd.R rb c false :: aB b p S :: aS p S :: L) (fun v L' => v = .tuple #[.slice none 0 0, .slice none 0 0, vN 9] ∧ L' = aB b p S :: aS p S :: L) := by
  refine Fn.of (N := 68) Try.func33 rfl rfl ?_
  intro Xh
  obtain ⟨tag, htag⟩ : ∃ t, t = num (c.take 4) := ⟨_, rfl⟩
  obtain ⟨tsn, htsn⟩ : ∃ t, t = num ((c.drop 4).take 4) := ⟨_, rfl⟩
  rw [← htag, ← htsn] at h
  try rw [← htag]
  try rw [← htsn]
  try rw [← htag] at h3
  try rw [← htag] at ho
  refine TC.seq ?_
  refine TC.region ?_
  refine TL.val rfl rfl rfl (Y.assign rfl rfl) ?_
  refine TL.val rfl rfl rfl (Y.assign rfl rfl) ?_
  refine TL.val rfl rfl rfl (Y.assign rfl rfl) ?_
  refine TL.nil ?_
  refine TQ.next ?_
  refine TC.seq ?_
  refine TC.region ?_
  refine TL.val rfl rfl rfl (Y.move rfl rfl) ?_
  refine TL.eff rfl rfl rfl (X.call rfl Try.func35 (by kernel_rfl) rfl rfl (Fn.preE (by repeat first | (with_reducible apply Ent.refl) | (apply Ent.cons; case h => first | (with_reducible (repeat first | apply Pull.here | apply Pull.there); done) | (repeat first | apply Pull.here | apply Pull.there))) (take_ok rb 36 c (by omega) (by omega) _))) ?_
  rintro _ _ ⟨a12, c12, rfl, rfl⟩
  rw [List.take_of_length_le (by omega : c.length ≤ 36)]
  refine TL.val rfl rfl rfl (Y.assign rfl rfl) ?_
  refine TL.nil ?_
  refine TQ.next ?_
  refine TC.seq ?_
  refine TC.to ((Pull.ent (A := SA.owns 5 1 (.slice a12 36 c12) 36 (c.map v8)) pul).trans Ent.freeze) ?_
  refine TC.region ?_
  refine TL.val rfl rfl rfl (Y.move rfl rfl) ?_
  refine TL.eff rfl rfl rfl (X.call rfl Try.func26 (by kernel_rfl) rfl rfl (Fn.preE (by repeat first | (with_reducible apply Ent.refl) | (apply Ent.cons; case h => first | (with_reducible (repeat first | apply Pull.here | apply Pull.there); done) | (repeat first | apply Pull.here | apply Pull.there))) (rd.New_fn a12 36 c12 c hc (by decide) _))) ?_
  rintro _ _ ⟨p14, rfl, rfl⟩
  refine TL.val rfl rfl rfl (Y.assign rfl rfl) ?_
  refine TL.nil ?_
  refine TQ.next ?_
  refine TC.seq ?_
  refine TC.region ?_
  refine TL.val rfl rfl rfl (Y.move rfl rfl) ?_
  refine TL.eff rfl rfl rfl (X.call rfl Try.func27 (by kernel_rfl) rfl rfl (Fn.preE (by repeat first | (with_reducible apply Ent.refl) | (apply Ent.cons; case h => first | (with_reducible (repeat first | apply Pull.here | apply Pull.there); done) | (repeat first | apply Pull.here | apply Pull.there))) (u32_ok p14 c (by omega) _))) ?_
  rintro _ _ ⟨rfl, rfl⟩
  rw [← htag]
  refine TL.val rfl rfl rfl (Y.move rfl rfl) ?_
  refine TL.eff rfl rfl rfl (X.call rfl Try.func27 (by kernel_rfl) rfl rfl (Fn.preE (by repeat first | (with_reducible apply Ent.refl) | (apply Ent.cons; case h => first | (with_reducible (repeat first | apply Pull.here | apply Pull.there); done) | (repeat first | apply Pull.here | apply Pull.there))) (u32_ok p14 (c.drop 4) (by rw [List.length_drop]; omega) _))) ?_
  rintro _ _ ⟨rfl, rfl⟩
  rw [← htsn]
  refine TL.val rfl rfl rfl (Y.assign rfl rfl) ?_
  refine TL.val rfl rfl rfl (Y.assign rfl rfl) ?_
  refine TL.nil ?_
  refine TQ.next ?_
  refine TC.seq ?_
  refine TC.block ?_
  refine TC.seq ?_
  refine TC.region ?_
  refine TL.val rfl rfl rfl (Y.move rfl rfl) ?_
  refine TL.val rfl rfl rfl (Y.move rfl rfl) ?_
  refine TL.val rfl rfl rfl (Y.move rfl rfl) ?_
  refine TL.val rfl rfl rfl (Y.move rfl rfl) ?_
  refine TL.eff rfl rfl rfl (X.call rfl Try.func49 (by kernel_rfl) rfl rfl (Fn.preE (by repeat first | (with_reducible apply Ent.refl) | (apply Ent.cons; case h => first | (with_reducible (repeat first | apply Pull.here | apply Pull.there); done) | (repeat first | apply Pull.here | apply Pull.there))) (cookie_fn b p S tag tsn hs _))) ?_
  rintro _ _ ⟨a24, c24, rfl, rfl⟩
  refine TL.eff rfl rfl rfl (X.call rfl Try.func50 (by kernel_rfl) rfl rfl (Fn.preE (by repeat first | (with_reducible apply Ent.refl) | (apply Ent.cons; case h => first | (with_reducible (repeat first | apply Pull.here | apply Pull.there); done) | (repeat first | apply Pull.here | apply Pull.there))) (Equal_fn (SA.rds 1 (.slice a12 36 c12) 36 (c.map v8)) (SA.owns 5 1 (.slice a24 36 c24) 36 ((cookieB S tag tsn).map v8)) a12 36 c12 c a24 36 c24 (cookieB S tag tsn) Reads.rds Reads.owns _))) ?_
  rintro _ _ ⟨rfl, rfl⟩
  refine TL.val rfl rfl rfl (Y.not rfl rfl) ?_
  refine TL.is false (by (rw [decide_eq_true h]; rfl)) ?_
  refine TL.val rfl rfl rfl (Y.assign rfl rfl) ?_
  refine TL.nil ?_
  refine TQ.next ?_
  refine TC.cond_f rfl ?_
  refine TC.seq ?_
  refine TC.region ?_
  refine TL.val rfl rfl rfl (Y.move rfl rfl) ?_
  refine TL.val rfl rfl rfl (Y.nilCheck rfl rfl) ?_
  refine TL.val rfl rfl rfl (by first | exact Y.fieldAddrJ rfl fo68_3 rfl nqq | exact Y.fieldAddr rfl fo68_3 rfl nqq) ?_
  refine TL.val rfl rfl rfl (Y.load rfl sc3 rfl celN) ?_
  refine TL.as (vN S.state) (by rfl) ?_
  refine TL.val rfl rfl rfl (Y.bin rfl rfl rfl (br_eqN (n := 0))) ?_
  refine TL.is false (by simpa using h0) ?_
  refine TL.val rfl rfl rfl (Y.assign rfl rfl) ?_
  refine TL.nil ?_
  refine TQ.next ?_
  refine TC.cond_f rfl ?_
  refine TC.seq ?_
  refine TC.region ?_
  refine TL.val rfl rfl rfl (Y.move rfl rfl) ?_
  refine TL.val rfl rfl rfl (Y.nilCheck rfl rfl) ?_
  refine TL.val rfl rfl rfl (by first | exact Y.fieldAddrJ rfl fo68_3 rfl nqq | exact Y.fieldAddr rfl fo68_3 rfl nqq) ?_
  refine TL.val rfl rfl rfl (Y.load rfl sc3 rfl celN) ?_
  refine TL.as (vN S.state) (by rfl) ?_
  refine TL.val rfl rfl rfl (Y.bin rfl rfl rfl (br_neN (n := 3))) ?_
  refine TL.val rfl rfl rfl (Y.move rfl rfl) ?_
  refine TL.case (fun g8_5 => ?_) (fun g8_5 => ?_)
  · try simp only [decide_eq_true_eq, decide_eq_false_iff_not, Bool.not_eq_true', Bool.not_eq_false', Nat.not_lt, Nat.not_le, beq_iff_eq, bne_iff_ne] at g8_5
    refine TL.not rfl rfl rfl ?_
    refine TL.not rfl rfl rfl ?_
    refine TL.not rfl rfl rfl ?_
    refine TL.not rfl rfl rfl ?_
    refine TL.not rfl rfl rfl ?_
    refine TL.not rfl rfl rfl ?_
    refine TL.val rfl rfl rfl (Y.pick_t rfl rfl rfl) ?_
    refine TL.val rfl rfl rfl (Y.assign rfl rfl) ?_
    refine TL.nil ?_
    refine TQ.next ?_
    refine TC.cond_t rfl ?_
    refine TC.seq ?_
    refine TC.region ?_
    refine TL.val rfl rfl rfl (Y.assign rfl rfl) ?_
    refine TL.val rfl rfl rfl (Y.assign rfl rfl) ?_
    refine TL.val rfl rfl rfl (Y.assign rfl rfl) ?_
    refine TL.nil ?_
    refine TQ.next ?_
    refine TC.ret ?_
    refine TQ.block_ret ?_
    refine TQ.then_ret ?_
    refine TQ.retE (resL rfl (Res.tmp rfl (Res.tmp rfl (Res.tmp rfl Res.nil)))) (⟨rfl, rfl⟩) ?_
    exact ett
  · try simp only [decide_eq_true_eq, decide_eq_false_iff_not, Bool.not_eq_true', Bool.not_eq_false', Nat.not_lt, Nat.not_le, beq_iff_eq, bne_iff_ne] at g8_5
    refine TL.valG rfl rfl rfl (Y.move rfl rfl) ?_
    refine TL.valG rfl rfl rfl (Y.nilCheck rfl rfl) ?_
    refine TL.valG rfl rfl rfl (by first | exact Y.fieldAddrJ rfl fo68_5 rfl nqq | exact Y.fieldAddr rfl fo68_5 rfl nqq) ?_
    refine TL.valG rfl rfl rfl (Y.load rfl sc22 rfl cel32) ?_
    refine TL.as (v32 S.other) (by rfl) ?_
    refine TL.valG rfl rfl rfl (Y.move rfl rfl) ?_
    refine TL.valG rfl rfl rfl (Y.bin rfl rfl rfl (br_ne32)) ?_
    refine TL.is true (by (simp; rcases h3 with h3 | h3; (exact absurd (by simpa using g8_5) h3); exact h3)) ?_
    refine TL.val rfl rfl rfl (Y.pick_f rfl rfl rfl) ?_
    refine TL.val rfl rfl rfl (Y.assign rfl rfl) ?_
    refine TL.nil ?_
    refine TQ.next ?_
    refine TC.cond_t rfl ?_
    refine TC.seq ?_
    refine TC.region ?_
    refine TL.val rfl rfl rfl (Y.assign rfl rfl) ?_
    refine TL.val rfl rfl rfl (Y.assign rfl rfl) ?_
    refine TL.val rfl rfl rfl (Y.assign rfl rfl) ?_
    refine TL.nil ?_
    refine TQ.next ?_
    refine TC.ret ?_
    refine TQ.block_ret ?_
    refine TQ.then_ret ?_
    refine TQ.retE (resL rfl (Res.tmp rfl (Res.tmp rfl (Res.tmp rfl Res.nil)))) (⟨rfl, rfl⟩) ?_
    exact ett
theorem cookied_again (h : c = cookieB S (num (c.take 4)) (num ((c.drop 4).take 4))) (h3 : S.state = 3) (ho : S.other = num (c.take 4)) (L : List SA) :
    Fn Try.prog 33 [pt b 0, pt rb 0] (rd.R rb c false :: aB b p S :: aS p S :: L)
      (fun v L' => ∃ o : Sl Bs, v = .tuple #[o.v, .slice none 0 0, vN 0] ∧ o.l.map (·.l) = [pkt S.other 4] ∧ L' = SA.dat o :: aB b p S :: aS p S :: L) := by
  refine Fn.of (N := 68) Try.func33 rfl rfl ?_
  intro Xh
  obtain ⟨tag, htag⟩ : ∃ t, t = num (c.take 4) := ⟨_, rfl⟩
  obtain ⟨tsn, htsn⟩ : ∃ t, t = num ((c.drop 4).take 4) := ⟨_, rfl⟩
  rw [← htag, ← htsn] at h
  try rw [← htag]
  try rw [← htsn]
  try rw [← htag] at h3
  try rw [← htag] at ho
  refine TC.seq ?_
  refine TC.region ?_
  refine TL.val rfl rfl rfl (Y.assign rfl rfl) ?_
  refine TL.val rfl rfl rfl (Y.assign rfl rfl) ?_
  refine TL.val rfl rfl rfl (Y.assign rfl rfl) ?_
  refine TL.nil ?_
  refine TQ.next ?_
  refine TC.seq ?_
  refine TC.region ?_
  refine TL.val rfl rfl rfl (Y.move rfl rfl) ?_
  refine TL.eff rfl rfl rfl (X.call rfl Try.func35 (by kernel_rfl) rfl rfl (Fn.preE (by repeat first | (with_reducible apply Ent.refl) | (apply Ent.cons; case h => first | (with_reducible (repeat first | apply Pull.here | apply Pull.there); done) | (repeat first | apply Pull.here | apply Pull.there))) (take_ok rb 36 c (by omega) (by omega) _))) ?_
  rintro _ _ ⟨a12, c12, rfl, rfl⟩
  rw [List.take_of_length_le (by omega : c.length ≤ 36)]
  refine TL.val rfl rfl rfl (Y.assign rfl rfl) ?_
  refine TL.nil ?_
  refine TQ.next ?_
  refine TC.seq ?_
  refine TC.to ((Pull.ent (A := SA.owns 5 1 (.slice a12 36 c12) 36 (c.map v8)) pul).trans Ent.freeze) ?_
  refine TC.region ?_
  refine TL.val rfl rfl rfl (Y.move rfl rfl) ?_
  refine TL.eff rfl rfl rfl (X.call rfl Try.func26 (by kernel_rfl) rfl rfl (Fn.preE (by repeat first | (with_reducible apply Ent.refl) | (apply Ent.cons; case h => first | (with_reducible (repeat first | apply Pull.here | apply Pull.there); done) | (repeat first | apply Pull.here | apply Pull.there))) (rd.New_fn a12 36 c12 c hc (by decide) _))) ?_
  rintro _ _ ⟨p14, rfl, rfl⟩
  refine TL.val rfl rfl rfl (Y.assign rfl rfl) ?_
  refine TL.nil ?_
  refine TQ.next ?_
  refine TC.seq ?_
  refine TC.region ?_
  refine TL.val rfl rfl rfl (Y.move rfl rfl) ?_
  refine TL.eff rfl rfl rfl (X.call rfl Try.func27 (by kernel_rfl) rfl rfl (Fn.preE (by repeat first | (with_reducible apply Ent.refl) | (apply Ent.cons; case h => first | (with_reducible (repeat first | apply Pull.here | apply Pull.there); done) | (repeat first | apply Pull.here | apply Pull.there))) (u32_ok p14 c (by omega) _))) ?_
  rintro _ _ ⟨rfl, rfl⟩
  rw [← htag]
  refine TL.val rfl rfl rfl (Y.move rfl rfl) ?_
  refine TL.eff rfl rfl rfl (X.call rfl Try.func27 (by kernel_rfl) rfl rfl (Fn.preE (by repeat first | (with_reducible apply Ent.refl) | (apply Ent.cons; case h => first | (with_reducible (repeat first | apply Pull.here | apply Pull.there); done) | (repeat first | apply Pull.here | apply Pull.there))) (u32_ok p14 (c.drop 4) (by rw [List.length_drop]; omega) _))) ?_
  rintro _ _ ⟨rfl, rfl⟩
  rw [← htsn]
  refine TL.val rfl rfl rfl (Y.assign rfl rfl) ?_
  refine TL.val rfl rfl rfl (Y.assign rfl rfl) ?_
  refine TL.nil ?_
  refine TQ.next ?_
  refine TC.seq ?_
  refine TC.block ?_
  refine TC.seq ?_
  refine TC.region ?_
  refine TL.val rfl rfl rfl (Y.move rfl rfl) ?_
  refine TL.val rfl rfl rfl (Y.move rfl rfl) ?_
  refine TL.val rfl rfl rfl (Y.move rfl rfl) ?_
  refine TL.val rfl rfl rfl (Y.move rfl rfl) ?_
  refine TL.eff rfl rfl rfl (X.call rfl Try.func49 (by kernel_rfl) rfl rfl (Fn.preE (by repeat first | (with_reducible apply Ent.refl) | (apply Ent.cons; case h => first | (with_reducible (repeat first | apply Pull.here | apply Pull.there); done) | (repeat first | apply Pull.here | apply Pull.there))) (cookie_fn b p S tag tsn hs _))) ?_
  rintro _ _ ⟨a24, c24, rfl, rfl⟩
  refine TL.eff rfl rfl rfl (X.call rfl Try.func50 (by kernel_rfl) rfl rfl (Fn.preE (by repeat first | (with_reducible apply Ent.refl) | (apply Ent.cons; case h => first | (with_reducible (repeat first | apply Pull.here | apply Pull.there); done) | (repeat first | apply Pull.here | apply Pull.there))) (Equal_fn (SA.rds 1 (.slice a12 36 c12) 36 (c.map v8)) (SA.owns 5 1 (.slice a24 36 c24) 36 ((cookieB S tag tsn).map v8)) a12 36 c12 c a24 36 c24 (cookieB S tag tsn) Reads.rds Reads.owns _))) ?_
  rintro _ _ ⟨rfl, rfl⟩
  refine TL.val rfl rfl rfl (Y.not rfl rfl) ?_
  refine TL.is false (by (rw [decide_eq_true h]; rfl)) ?_
  refine TL.val rfl rfl rfl (Y.assign rfl rfl) ?_
  refine TL.nil ?_
  refine TQ.next ?_
  refine TC.cond_f rfl ?_
  refine TC.seq ?_
  refine TC.region ?_
  refine TL.val rfl rfl rfl (Y.move rfl rfl) ?_
  refine TL.val rfl rfl rfl (Y.nilCheck rfl rfl) ?_
  refine TL.val rfl rfl rfl (by first | exact Y.fieldAddrJ rfl fo68_3 rfl nqq | exact Y.fieldAddr rfl fo68_3 rfl nqq) ?_
  refine TL.val rfl rfl rfl (Y.load rfl sc3 rfl celN) ?_
  refine TL.as (vN S.state) (by rfl) ?_
  refine TL.val rfl rfl rfl (Y.bin rfl rfl rfl (br_eqN (n := 0))) ?_
  refine TL.is false (by (simp; omega)) ?_
  refine TL.val rfl rfl rfl (Y.assign rfl rfl) ?_
  refine TL.nil ?_
  refine TQ.next ?_
  refine TC.cond_f rfl ?_
  refine TC.seq ?_
  refine TC.region ?_
  refine TL.val rfl rfl rfl (Y.move rfl rfl) ?_
  refine TL.val rfl rfl rfl (Y.nilCheck rfl rfl) ?_
  refine TL.val rfl rfl rfl (by first | exact Y.fieldAddrJ rfl fo68_3 rfl nqq | exact Y.fieldAddr rfl fo68_3 rfl nqq) ?_
  refine TL.val rfl rfl rfl (Y.load rfl sc3 rfl celN) ?_
  refine TL.as (vN S.state) (by rfl) ?_
  refine TL.val rfl rfl rfl (Y.bin rfl rfl rfl (br_neN (n := 3))) ?_
  refine TL.is false (by simpa using h3) ?_
  refine TL.val rfl rfl rfl (Y.move rfl rfl) ?_
  refine TL.valG rfl rfl rfl (Y.move rfl rfl) ?_
  refine TL.valG rfl rfl rfl (Y.nilCheck rfl rfl) ?_
  refine TL.valG rfl rfl rfl (by first | exact Y.fieldAddrJ rfl fo68_5 rfl nqq | exact Y.fieldAddr rfl fo68_5 rfl nqq) ?_
  refine TL.valG rfl rfl rfl (Y.load rfl sc22 rfl cel32) ?_
  refine TL.as (v32 S.other) (by rfl) ?_
  refine TL.valG rfl rfl rfl (Y.move rfl rfl) ?_
  refine TL.valG rfl rfl rfl (Y.bin rfl rfl rfl (br_ne32)) ?_
  refine TL.is false (by (simp; exact ho)) ?_
  refine TL.val rfl rfl rfl (Y.pick_f rfl rfl rfl) ?_
  refine TL.val rfl rfl rfl (Y.assign rfl rfl) ?_
  refine TL.nil ?_
  refine TQ.next ?_
  refine TC.cond_f rfl ?_
  refine TC.skip ?_
  refine TQ.block_normal ?_
  refine TQ.next ?_
  refine TC.seq ?_
  refine TC.region ?_
  refine TL.val rfl rfl rfl (Y.move rfl rfl) ?_
  refine TL.val rfl rfl rfl (Y.nilCheck rfl rfl) ?_
  refine TL.val rfl rfl rfl (by first | exact Y.fieldAddrJ rfl fo68_5 rfl nqq | exact Y.fieldAddr rfl fo68_5 rfl nqq) ?_
  refine TL.val rfl rfl rfl (Y.load rfl sc22 rfl cel32) ?_
  refine TL.as (v32 S.other) (by rfl) ?_
  refine TL.eff rfl rfl rfl (X.call rfl Try.func44 (by kernel_rfl) rfl rfl (Fn.preE (by repeat first | (with_reducible apply Ent.refl) | (apply Ent.cons; case h => first | (with_reducible (repeat first | apply Pull.here | apply Pull.there); done) | (repeat first | apply Pull.here | apply Pull.there))) (packet_fn S.other 4 _))) ?_
  rintro _ _ ⟨a66, c66, rfl, rfl⟩
  refine TL.eff rfl rfl rfl (X.lit rfl el24 rfl rfl rfl (by decide) rfl) ?_
  rintro _ _ ⟨g67, rfl, rfl⟩
  refine TL.val rfl rfl rfl (Y.assign rfl rfl) ?_
  refine TL.val rfl rfl rfl (Y.assign rfl rfl) ?_
  refine TL.val rfl rfl rfl (Y.assign rfl rfl) ?_
  refine TL.nil ?_
  refine TQ.next ?_
  refine TC.ret ?_
  refine TQ.retE (resL rfl (Res.tmp rfl (Res.tmp rfl (Res.tmp rfl Res.nil)))) (⟨⟨some ⟨g67, 0, none⟩, 1, [⟨a66, c66, pkt S.other 4⟩]⟩, rfl, rfl, rfl⟩) ?_
  exact (Ent.trans (Ent.one1 (a := a66) (g := g67) (n := 8) (l := pkt S.other 4) pul pul rfl) ett)
end
end ac
end Go.Proofs.Ytomplpdeeomehaa

/- assoc: receive, walked. -/
namespace Go.Proofs.Ytomplpdeeomehaa
set_option linter.unusedVariables false
set_option linter.unusedSimpArgs false
open Go.RowKit
namespace ac
open wr (be16 be32)
namespace FxAsR
set_option maxRecDepth 100000
theorem ag51 : Program.aggN Try.prog 51 = some 3 := by kernel_rfl
theorem el28 : Elt Try.prog 28 51 3 32 (.agg #[.int .u16 0, .int .u32 0, .slice none 0 0]) := ⟨Try.underlying28, by kernel_rfl, rfl, by decide, by simp [Value.cells, Value.oneCell']⟩
theorem fo68_6 : Program.fieldOff Try.prog 68 6 = some 6 := by kernel_rfl
theorem fo68_7 : Program.fieldOff Try.prog 68 7 = some 7 := by kernel_rfl
theorem sc22 : Program.isSc Try.prog 22 = true := by kernel_rfl
theorem sc63 : Program.isSc Try.prog 63 = true := by kernel_rfl
theorem zc51 : Program.zeroC Try.prog 51 = some #[.int .u16 0, .int .u32 0, .slice none 0 0] := by kernel_rfl
end FxAsR
open FxAsR
theorem mapT : Program.underlying Try.prog 63 = some (.map 22 51) := Try.underlying63
theorem zMsg : ((Try.prog.info? 51).bind (·.zero)) = some (.agg #[v16 0, v32 0, .slice none 0 0]) := by kernel_rfl
def lkC : Option Msg → Array Value
  | some v => (Dat.c v).toArray
  | none => #[v16 0, v32 0, .slice none 0 0]
theorem lkC_size (o : Option Msg) : (lkC o).size = 3 := by cases o <;> rfl
theorem lkC_one (o : Option Msg) : ∀ v ∈ (lkC o).toList, v.oneCell' = true := by
  cases o with
  | none => exact allOne (by rfl)
  | some m => exact allOne (by rfl)
theorem lk_val (o : Option Msg) : Value.tuple #[(match o with | some v => Value.agg (Dat.c v).toArray | none => Value.agg #[v16 0, v32 0, .slice none 0 0]), .bool o.isSome] = .tuple #[.agg (lkC o), .bool o.isSome] := by cases o <;> rfl
theorem Win_next {S : AS Msg} {w : Nat} (h : S.Win (w + 1)) : S.step1.Win w := fun k hk => by
  have hk2 : ¬ k = S.top + 1 ∧ (S.kept k).isSome = true := by
    simp only [AS.step1, mdel] at hk
    split at hk
    · cases hk
    · rename_i hne; exact ⟨hne, hk⟩
  have h1 := h k hk2.2
  have hne : k - S.top - 1 ≠ 0 := fun e => hk2.1 (by
    have : k = (k - S.top - 1) + (S.top + 1) := by grind
    rw [e, UInt32.zero_add] at this; exact this)
  show (k - (S.top + 1) - 1).toNat < w
  have e : k - (S.top + 1) - 1 = (k - S.top - 1) - 1 := by grind
  rw [e]
  generalize k - S.top - 1 = x at h1 hne ⊢
  have hx : x.toNat ≠ 0 := fun e => hne (UInt32.toNat_inj.1 (by simpa using e))
  have : (x - 1).toNat = x.toNat - 1 := by rw [UInt32.toNat_sub_of_le x 1 (by rw [UInt32.le_iff_toNat_le]; show 1 ≤ _; omega)]; rfl
  omega
theorem Win_zero {S : AS Msg} (h : S.Win 0) (k : UInt32) : S.kept k = none := by
  cases hk : S.kept k with
  | none => rfl
  | some m => exact absurd (h k (by rw [hk]; rfl)) (by omega)
theorem Win_pos {S : AS Msg} {w : Nat} (h : S.Win w) {m : Msg} (hm : S.kept (S.top + 1) = some m) : ∃ w', w = w' + 1 := by
  cases w with
  | zero => rw [Win_zero h] at hm; cases hm
  | succ w => exact ⟨w, rfl⟩
theorem deliver_none {S : AS Msg} (f : Nat) (h : S.kept (S.top + 1) = none) : AS.deliver f S = ([], S) := by
  cases f with
  | zero => rfl
  | succ f => rw [AS.deliver, h]
theorem deliver_some {S : AS Msg} (f : Nat) {m : Msg} (h : S.kept (S.top + 1) = some m) : AS.deliver (f + 1) S = (m :: (AS.deliver f S.step1).1, (AS.deliver f S.step1).2) := by rw [AS.deliver, h]
theorem keep_win {S : AS Msg} {t : UInt32} {m : Msg} (h : S.Win 32) : (S.keep t m).Win 32 := by
  unfold AS.keep
  split
  · rename_i hc
    intro k hk
    simp only [mput] at hk
    by_cases e : k = t
    · subst e; exact UInt32.lt_iff_toNat_lt.1 hc.2
    · rw [if_neg e] at hk; exact h k hk
  · exact h
theorem keep_top (S : AS Msg) (t : UInt32) (m : Msg) : (S.keep t m).top = S.top := by unfold AS.keep; split <;> rfl
theorem keep_asC (p : AP) (S : AS Msg) (t : UInt32) (m : Msg) : asC p (S.keep t m) = asC p S := by unfold AS.keep; split <;> rfl
theorem keep_have {S : AS Msg} {t : UInt32} {m : Msg} (h : (S.kept t).isSome = true) : S.keep t m = S := by
  unfold AS.keep; rw [if_neg]
  rintro ⟨h1, -⟩
  cases hk : S.kept t <;> simp_all
set_option maxHeartbeats 4000000 in
theorem receive_fn (b : Nat) (p : AP) (S : AS Msg) (t : UInt32) (st : UInt16) (kd : UInt32) (bs : Bs) (hw : S.Win 32) (L : List SA) :
    Fn Try.prog 36 [pt b 0, v32 t, .agg (msC st kd (.slice bs.a bs.l.length bs.cap))] (aB b p S :: aM p S :: SA.dat ((st, kd, bs) : Msg) :: L)
      (fun v L' => ∃ o : Sl Msg, v = o.v ∧ o.l = (S.recv t (st, kd, bs)).1 ∧ L' = SA.dat o :: aB b p (S.recv t (st, kd, bs)).2 :: aM p (S.recv t (st, kd, bs)).2 :: L) := by
  refine Fn.of (N := 74) Try.func36 rfl rfl ?_
  intro Xh
  refine TC.seq ?_
  refine TC.region ?_
  refine TL.eff rfl rfl rfl (X.boxA rfl rfl) ?_
  rintro _ _ ⟨b5, rfl, rfl⟩
  refine TL.val rfl rfl rfl (Y.assign rfl rfl) ?_
  refine TL.nil ?_
  refine TQ.next ?_
  refine TC.cutF (ι := Unit) [] (fun _ => True) (fun _ => []) (fun _ => [SA.mapD p.mb (S.keep t (st, kd, bs)).kept]) (Ao := [SA.mapD p.mb S.kept, SA.dat ((st, kd, bs) : Msg)]) (Pulls.cons pul (Pulls.cons pul Pulls.nil)) ?_ ?_
  · rintro L' hL'
    simp only [List.cons_append, List.nil_append] at hL'
    subst hL'
    refine TC.seq ?_
    refine TC.region ?_
    refine TL.val rfl rfl rfl (Y.move rfl rfl) ?_
    refine TL.val rfl rfl rfl (Y.nilCheck rfl rfl) ?_
    refine TL.val rfl rfl rfl (by first | exact Y.fieldAddrJ rfl fo68_7 rfl nqq | exact Y.fieldAddr rfl fo68_7 rfl nqq) ?_
    refine TL.val rfl rfl rfl (Y.load rfl sc63 rfl celD) ?_
    refine TL.as (.map (some p.mb)) (by rfl) ?_
    refine TL.val rfl rfl rfl (Y.move rfl rfl) ?_
    refine TL.val rfl rfl rfl (Y.lookup rfl mapT Try.underlying22 zMsg rfl rfl (by exact inn)) ?_
    refine TL.as (.tuple #[.agg (lkC (S.kept t)), .bool (S.kept t).isSome]) (by (rcases S.kept t with _ | m <;> rfl)) ?_
    refine TL.val rfl rfl rfl (Y.move rfl rfl) ?_
    refine TL.val rfl rfl rfl (Y.extract rfl rfl rfl) ?_
    refine TL.val rfl rfl rfl (Y.extract rfl rfl rfl) ?_
    refine TL.eff rfl rfl rfl (X.alloc rfl zc51) ?_
    rintro _ _ ⟨b7, rfl, rfl⟩
    refine TL.eff0 rfl rfl (X.storeAll rfl (by kernel_rfl) (lkC_size _) rfl rfl (lkC_one _) pul (by rfl)) ?_
    rintro _ _ rfl
    refine TL.val rfl rfl rfl (Y.assign rfl rfl) ?_
    refine TL.nil ?_
    refine TQ.next ?_
    refine TC.seq ?_
    refine TC.region ?_
    refine TL.val rfl rfl rfl (Y.move rfl rfl) ?_
    refine TL.val rfl rfl rfl (Y.not rfl rfl) ?_
    refine TL.val rfl rfl rfl (Y.move rfl rfl) ?_
    refine TL.case (fun g2_2 => ?_) (fun g2_2 => ?_)
    · try simp only [decide_eq_true_eq, decide_eq_false_iff_not, Bool.not_eq_true', Bool.not_eq_false', Nat.not_lt, Nat.not_le, beq_iff_eq, bne_iff_ne] at g2_2
      refine TL.valG rfl rfl rfl (Y.move rfl rfl) ?_
      refine TL.valG rfl rfl rfl (Y.move rfl rfl) ?_
      refine TL.valG rfl rfl rfl (Y.nilCheck rfl rfl) ?_
      refine TL.valG rfl rfl rfl (by first | exact Y.fieldAddrJ rfl fo68_6 rfl nqq | exact Y.fieldAddr rfl fo68_6 rfl nqq) ?_
      refine TL.valG rfl rfl rfl (Y.load rfl sc22 rfl cel32) ?_
      refine TL.as (v32 S.top) (by rfl) ?_
      refine TL.valG rfl rfl rfl (Y.bin rfl rfl rfl (br_sub32)) ?_
      refine TL.valG rfl rfl rfl (Y.bin rfl rfl rfl (br_sub32 (y := 1))) ?_
      refine TL.valG rfl rfl rfl (Y.bin rfl rfl rfl (br_ltN (n := 32))) ?_
      refine TL.val rfl rfl rfl (Y.pick_t rfl rfl rfl) ?_
      refine TL.nil ?_
      refine TQ.next ?_
      refine TC.cond rfl (fun c0 => ?_) (fun c0 => ?_)
      · try simp only [decide_eq_true_eq, decide_eq_false_iff_not, Bool.not_eq_true', Bool.not_eq_false', Bool.and_eq_true, Bool.or_eq_true, Nat.not_lt, Nat.not_le, beq_iff_eq, bne_iff_ne] at c0
        have hk : S.keep t (st, kd, bs) = { S with kept := mput S.kept t (st, kd, bs) } := by
          unfold AS.keep; rw [if_pos]
          first
          | exact ⟨by simpa using g2_2, UInt32.lt_iff_toNat_lt.2 (by simpa using c0)⟩
        rw [hk]
        refine TC.draws 6 _ (by kernel_rfl) (by kernel_rfl) (fun _ h => h) ?_
        refine TA.take 0 rfl rfl rfl rfl (by kernel_rfl) (by kernel_rfl) (by kernel_rfl) rfl (by kernel_rfl) (by kernel_rfl) (fun _ _ _ h => h) (Y.move rfl rfl) ?_
        refine TA.take 1 rfl rfl rfl rfl (by kernel_rfl) (by kernel_rfl) (by kernel_rfl) rfl (by kernel_rfl) (by kernel_rfl) (fun _ _ _ h => h) (Y.nilCheck rfl rfl) ?_
        refine TA.take 2 rfl rfl rfl rfl (by kernel_rfl) (by kernel_rfl) (by kernel_rfl) rfl (by kernel_rfl) (by kernel_rfl) (fun _ _ _ h => h) (by first | exact Y.fieldAddrJ rfl fo68_7 rfl nqq | exact Y.fieldAddr rfl fo68_7 rfl nqq) ?_
        refine TA.take 3 rfl rfl rfl rfl (by kernel_rfl) (by kernel_rfl) (by kernel_rfl) rfl (by kernel_rfl) (by kernel_rfl) (fun _ _ _ h => h) (Y.load rfl sc63 rfl celD) ?_
        refine TA.as (.map (some p.mb)) (by rfl) ?_
        refine TA.take 4 rfl rfl rfl rfl (by kernel_rfl) (by kernel_rfl) (by kernel_rfl) rfl (by kernel_rfl) (by kernel_rfl) (fun _ _ _ h => h) (Y.move rfl rfl) ?_
        refine TA.take 5 rfl rfl rfl rfl (by kernel_rfl) (by kernel_rfl) (by kernel_rfl) rfl (by kernel_rfl) (by kernel_rfl) (fun _ _ _ h => h) (Y.loadAgg rfl ag51 rfl (Cels.all (cs := msC st kd (.slice bs.a bs.l.length bs.cap)) inn) (by first | rfl | ((try simp only [List.length_map, List.length_set, List.length_replicate]); omega))) ?_
        refine TA.as (.agg (msC st kd (.slice bs.a bs.l.length bs.cap))) (by rfl) ?_
        refine TA.one0 6 (by kernel_rfl) rfl rfl rfl (X.mapPut (v := ((st, kd, bs) : Msg)) rfl mapT Try.underlying22 rfl rfl rfl rfl pul pul) ?_
        rintro _ _ rfl
        refine ⟨(Or.inl (by kernel_rfl)), ?_⟩
        refine TA.done (by kernel_rfl) ?_
        try rw [keep_have (by assumption : (S.kept t).isSome = true)]
        refine TQ.meetF (ι := Unit) (I := fun _ => True) (C := fun (_ : Unit) => []) (U := []) (()) (trivial) trivial (by (repeat first | apply Grow.refl | apply Grow.step | apply Grow.app)) ?_ ?_
        · kernel_rfl
        · simp only [List.cons_append, List.nil_append]
          exact ett
      · try simp only [decide_eq_true_eq, decide_eq_false_iff_not, Bool.not_eq_true', Bool.not_eq_false', Bool.and_eq_true, Bool.or_eq_true, Nat.not_lt, Nat.not_le, beq_iff_eq, bne_iff_ne] at c0
        have hk : S.keep t (st, kd, bs) = S := by
          unfold AS.keep; rw [if_neg]
          rintro ⟨h1, h2⟩
          have h3 := UInt32.lt_iff_toNat_lt.1 h2
          simp_all <;> omega
        rw [hk]
        refine TC.skip ?_
        try rw [keep_have (by assumption : (S.kept t).isSome = true)]
        refine TQ.meetF (ι := Unit) (I := fun _ => True) (C := fun (_ : Unit) => []) (U := []) (()) (trivial) trivial (by (repeat first | apply Grow.refl | apply Grow.step | apply Grow.app)) ?_ ?_
        · kernel_rfl
        · simp only [List.cons_append, List.nil_append]
          exact ett
    · try simp only [decide_eq_true_eq, decide_eq_false_iff_not, Bool.not_eq_true', Bool.not_eq_false', Nat.not_lt, Nat.not_le, beq_iff_eq, bne_iff_ne] at g2_2
      refine TL.not rfl rfl rfl ?_
      refine TL.not rfl rfl rfl ?_
      refine TL.not rfl rfl rfl ?_
      refine TL.not rfl rfl rfl ?_
      refine TL.not rfl rfl rfl ?_
      refine TL.not rfl rfl rfl ?_
      refine TL.not rfl rfl rfl ?_
      refine TL.not rfl rfl rfl ?_
      refine TL.val rfl rfl rfl (Y.pick_f rfl rfl rfl) ?_
      refine TL.nil ?_
      refine TQ.next ?_
      refine TC.cond_f rfl ?_
      refine TC.skip ?_
      try rw [keep_have (by assumption : (S.kept t).isSome = true)]
      refine TQ.meetF (ι := Unit) (I := fun _ => True) (C := fun (_ : Unit) => []) (U := []) (()) (trivial) trivial (by (repeat first | apply Grow.refl | apply Grow.step | apply Grow.app)) ?_ ?_
      · kernel_rfl
      · simp only [List.cons_append, List.nil_append]
        exact ett
  · rintro ⟨⟩ - F' L' rfl hL'
    simp only [List.cons_append, List.nil_append] at hL'
    subst hL'
    obtain ⟨S1, hS1⟩ : ∃ S1, S1 = S.keep t (st, kd, bs) := ⟨_, rfl⟩
    have hw1 : S1.Win 32 := by rw [hS1]; exact keep_win hw
    rw [show S.recv t (st, kd, bs) = AS.deliver 33 S1 by rw [hS1]; rfl, show aB b p S = aB b p (S.keep t (st, kd, bs)) by simp only [aB, keep_asC], ← hS1]
    refine TC.seq ?_
    refine TC.region ?_
    refine TL.val rfl rfl rfl (Y.assign rfl rfl) ?_
    refine TL.nil ?_
    refine TQ.next ?_
    refine TC.block ?_
    refine TC.to (Ent.trans (Ent.nilOwn 51 3) Ent.rdss0) ?_
    refine TC.loopF (ι := Nat × AS Msg × Option Addr × Nat × List Msg) [6] (fun i => i.2.1.Win i.1 ∧ i.1 + i.2.2.2.2.length = 32 ∧ AS.deliver 33 S1 = (i.2.2.2.2 ++ (AS.deliver (i.1 + 1) i.2.1).1, (AS.deliver (i.1 + 1) i.2.1).2)) (fun i => [(9, some (.slice i.2.2.1 i.2.2.2.2.length i.2.2.2.1))]) (fun i => [aB b p i.2.1, aM p i.2.1, SA.owns 51 3 (.slice i.2.2.1 i.2.2.2.2.length i.2.2.2.1) i.2.2.2.2.length (Dat.cs i.2.2.2.2), SA.rdss (i.2.2.2.2.flatMap Dat.g)]) (fun i => i.1) ((32, S1, none, 0, [])) (⟨hw1, rfl, rfl⟩) ⟨rfl, trivial⟩ (Pulls.cons pul (Pulls.cons pul (Pulls.cons pul (Pulls.cons pul Pulls.nil)))) ?_
    rintro ⟨w, S2, ga, gc, got⟩ ⟨hw2, hn2, hd2⟩ F' L' rfl hL'
    simp only [List.cons_append, List.nil_append] at hL'
    subst hL'
    simp only at hw2 hn2 hd2 ⊢
    refine TC.block ?_
    refine TC.seq ?_
    refine TC.draws 14 [aB b p S2, aM p S2] (by kernel_rfl) (by kernel_rfl) (by repeat first | exact holds_nil | refine holds_cons inn ?_) ?_
    refine TA.take 0 rfl rfl rfl rfl (by kernel_rfl) (by kernel_rfl) (by kernel_rfl) rfl (by kernel_rfl) (by kernel_rfl) (fun _ _ _ h => h) (Y.move rfl rfl) ?_
    refine TA.take 1 rfl rfl rfl rfl (by kernel_rfl) (by kernel_rfl) (by kernel_rfl) rfl (by kernel_rfl) (by kernel_rfl) (fun _ _ _ h => h) (Y.nilCheck rfl rfl) ?_
    refine TA.take 2 rfl rfl rfl rfl (by kernel_rfl) (by kernel_rfl) (by kernel_rfl) rfl (by kernel_rfl) (by kernel_rfl) (fun _ _ _ h => h) (by first | exact Y.fieldAddrJ rfl fo68_7 rfl nqq | exact Y.fieldAddr rfl fo68_7 rfl nqq) ?_
    refine TA.take 3 rfl rfl rfl rfl (by kernel_rfl) (by kernel_rfl) (by kernel_rfl) rfl (by kernel_rfl) (by kernel_rfl) (fun _ _ _ h => h) (Y.load rfl sc63 rfl celD) ?_
    refine TA.as (.map (some p.mb)) (by rfl) ?_
    refine TA.take 4 rfl rfl rfl rfl (by kernel_rfl) (by kernel_rfl) (by kernel_rfl) rfl (by kernel_rfl) (by kernel_rfl) (fun _ _ _ h => h) (Y.move rfl rfl) ?_
    refine TA.take 5 rfl rfl rfl rfl (by kernel_rfl) (by kernel_rfl) (by kernel_rfl) rfl (by kernel_rfl) (by kernel_rfl) (fun _ _ _ h => h) (Y.nilCheck rfl rfl) ?_
    refine TA.take 6 rfl rfl rfl rfl (by kernel_rfl) (by kernel_rfl) (by kernel_rfl) rfl (by kernel_rfl) (by kernel_rfl) (fun _ _ _ h => h) (by first | exact Y.fieldAddrJ rfl fo68_6 rfl nqq | exact Y.fieldAddr rfl fo68_6 rfl nqq) ?_
    refine TA.take 7 rfl rfl rfl rfl (by kernel_rfl) (by kernel_rfl) (by kernel_rfl) rfl (by kernel_rfl) (by kernel_rfl) (fun _ _ _ h => h) (Y.load rfl sc22 rfl cel32) ?_
    refine TA.as (v32 S2.top) (by rfl) ?_
    refine TA.take 8 rfl rfl rfl rfl (by kernel_rfl) (by kernel_rfl) (by kernel_rfl) rfl (by kernel_rfl) (by kernel_rfl) (fun _ _ _ h => h) (Y.bin rfl rfl rfl (br_add32 (y := 1))) ?_
    refine TA.take 9 rfl rfl rfl rfl (by kernel_rfl) (by kernel_rfl) (by kernel_rfl) rfl (by kernel_rfl) (by kernel_rfl) (fun _ _ _ h => h) (Y.lookup rfl mapT Try.underlying22 zMsg rfl rfl (by exact inn)) ?_
    refine TA.as (.tuple #[.agg (lkC (S2.kept (S2.top + 1))), .bool (S2.kept (S2.top + 1)).isSome]) (by (rcases S2.kept (S2.top + 1) with _ | m <;> rfl)) ?_
    refine TA.take 10 rfl rfl rfl rfl (by kernel_rfl) (by kernel_rfl) (by kernel_rfl) rfl (by kernel_rfl) (by kernel_rfl) (fun _ _ _ h => h) (Y.move rfl rfl) ?_
    refine TA.take 11 rfl rfl rfl rfl (by kernel_rfl) (by kernel_rfl) (by kernel_rfl) rfl (by kernel_rfl) (by kernel_rfl) (fun _ _ _ h => h) (Y.extract rfl rfl rfl) ?_
    refine TA.takeP 12 rfl rfl rfl rfl (by kernel_rfl) (by kernel_rfl) (by kernel_rfl) rfl (fun _ _ _ h => h) (Y.extract rfl rfl rfl) ?_
    refine TA.one 13 (by kernel_rfl) rfl rfl rfl rfl (X.alloc rfl zc51) ?_
    rintro _ _ ⟨b10, rfl, rfl⟩
    refine ⟨(Or.inr (by repeat first | exact holds_nil | refine holds_cons inn ?_)), ?_⟩
    refine TA.one0 14 (by kernel_rfl) rfl rfl rfl (X.storeAll rfl (by kernel_rfl) (lkC_size _) rfl rfl (lkC_one _) pul (by rfl)) ?_
    rintro _ _ rfl
    refine ⟨(Or.inl (by kernel_rfl)), ?_⟩
    refine TA.takeP 15 rfl rfl rfl rfl (by kernel_rfl) (by kernel_rfl) (by kernel_rfl) rfl (fun _ _ _ h => h) (Y.assign rfl rfl) ?_
    refine TA.done (by kernel_rfl) ?_
    refine TQ.next ?_
    refine TC.seq ?_
    refine TC.seq ?_
    refine TC.region ?_
    refine TL.val rfl rfl rfl (Y.move rfl rfl) ?_
    refine TL.val rfl rfl rfl (Y.not rfl rfl) ?_
    refine TL.nil ?_
    refine TQ.next ?_
    refine TC.cond rfl (fun c1 => ?_) (fun c1 => ?_)
    · try simp only [decide_eq_true_eq, decide_eq_false_iff_not, Bool.not_eq_true', Bool.not_eq_false', Bool.and_eq_true, Bool.or_eq_true, Nat.not_lt, Nat.not_le, beq_iff_eq, bne_iff_ne] at c1
      have hnone : S2.kept (S2.top + 1) = none := by simpa using c1
      rw [deliver_none _ hnone] at hd2
      rw [hd2]
      refine TC.to (Ent.mkOwn (a := ga) (l := got) pul pul rfl rfl rfl) ?_
      refine TC.seq ?_
      refine TC.region ?_
      refine TL.val rfl rfl rfl (Y.move rfl rfl) ?_
      refine TL.val rfl rfl rfl (Y.assign rfl rfl) ?_
      refine TL.nil ?_
      refine TQ.next ?_
      refine TC.ret ?_
      refine TQ.then_ret ?_
      refine TQ.block_ret ?_
      refine TQ.then_ret ?_
      refine TQ.block_ret ?_
      refine TQ.retE (res1 rfl rfl) (⟨⟨ga, gc, got⟩, rfl, by simp, rfl⟩) ?_
      exact ett
    · try simp only [decide_eq_true_eq, decide_eq_false_iff_not, Bool.not_eq_true', Bool.not_eq_false', Bool.and_eq_true, Bool.or_eq_true, Nat.not_lt, Nat.not_le, beq_iff_eq, bne_iff_ne] at c1
      obtain ⟨m, hm⟩ : ∃ m, S2.kept (S2.top + 1) = some m := Option.isSome_iff_exists.1 (by simpa using c1)
      obtain ⟨w', rfl⟩ := Win_pos hw2 hm
      rw [deliver_some _ hm] at hd2
      rw [hm]
      refine TC.to ((Pull.ent (A := aM p S2) pul).trans (Ent.mapGet hm)) ?_
      refine TC.skip ?_
      refine TQ.next ?_
      refine TC.seq ?_
      refine TC.region ?_
      refine TL.val rfl rfl rfl (Y.move rfl rfl) ?_
      refine TL.val rfl rfl rfl (Y.nilCheck rfl rfl) ?_
      refine TL.val rfl rfl rfl (by first | exact Y.fieldAddrJ rfl fo68_6 rfl nqq | exact Y.fieldAddr rfl fo68_6 rfl nqq) ?_
      refine TL.val rfl rfl rfl (Y.load rfl sc22 rfl cel32) ?_
      refine TL.as (v32 S2.top) (by rfl) ?_
      refine TL.val rfl rfl rfl (Y.bin rfl rfl rfl (br_add32 (y := 1))) ?_
      refine TL.val rfl rfl rfl (Y.nilCheck rfl rfl) ?_
      refine TL.val rfl rfl rfl (by first | exact Y.fieldAddrJ rfl fo68_6 rfl nqq | exact Y.fieldAddr rfl fo68_6 rfl nqq) ?_
      refine TL.eff0 rfl rfl (X.store (cs' := asC p { S2 with top := S2.top + 1 }) rfl (by kernel_rfl) rfl rfl rfl pul (by show 6 < 17; decide) rfl) ?_
      rintro _ _ rfl
      refine TL.nil ?_
      refine TQ.next ?_
      refine TC.seq ?_
      refine TC.draws 8 _ (by kernel_rfl) (by kernel_rfl) (fun _ h => h) ?_
      refine TA.takeP 0 rfl rfl rfl rfl (by kernel_rfl) (by kernel_rfl) (by kernel_rfl) rfl (fun _ _ _ h => h) (Y.move rfl rfl) ?_
      refine TA.takeP 1 rfl rfl rfl rfl (by kernel_rfl) (by kernel_rfl) (by kernel_rfl) rfl (fun _ _ _ h => h) (Y.nilCheck rfl rfl) ?_
      refine TA.takeP 2 rfl rfl rfl rfl (by kernel_rfl) (by kernel_rfl) (by kernel_rfl) rfl (fun _ _ _ h => h) (by first | exact Y.fieldAddrJ rfl fo68_7 rfl nqq | exact Y.fieldAddr rfl fo68_7 rfl nqq) ?_
      refine TA.take 3 rfl rfl rfl rfl (by kernel_rfl) (by kernel_rfl) (by kernel_rfl) rfl (by kernel_rfl) (by kernel_rfl) (fun _ _ _ h => h) (Y.load rfl sc63 rfl celD) ?_
      refine TA.as (.map (some p.mb)) (by rfl) ?_
      refine TA.takeP 4 rfl rfl rfl rfl (by kernel_rfl) (by kernel_rfl) (by kernel_rfl) rfl (fun _ _ _ h => h) (Y.move rfl rfl) ?_
      refine TA.takeP 5 rfl rfl rfl rfl (by kernel_rfl) (by kernel_rfl) (by kernel_rfl) rfl (fun _ _ _ h => h) (Y.nilCheck rfl rfl) ?_
      refine TA.takeP 6 rfl rfl rfl rfl (by kernel_rfl) (by kernel_rfl) (by kernel_rfl) rfl (fun _ _ _ h => h) (by first | exact Y.fieldAddrJ rfl fo68_6 rfl nqq | exact Y.fieldAddr rfl fo68_6 rfl nqq) ?_
      refine TA.take 7 rfl rfl rfl rfl (by kernel_rfl) (by kernel_rfl) (by kernel_rfl) rfl (by kernel_rfl) (by kernel_rfl) (fun _ _ _ h => h) (Y.load rfl sc22 rfl cel32) ?_
      refine TA.as (v32 (S2.top + 1)) (by rfl) ?_
      refine TA.one0 8 (by kernel_rfl) rfl rfl rfl (X.mapDel (β := Msg) (m := S2.kept) rfl mapT Try.underlying22 rfl rfl pul) ?_
      rintro _ _ rfl
      refine ⟨(Or.inl (by kernel_rfl)), ?_⟩
      refine TA.done (by kernel_rfl) ?_
      refine TQ.next ?_
      refine TC.region ?_
      refine TL.val rfl rfl rfl (Y.move rfl rfl) ?_
      refine TL.val rfl rfl rfl (Y.loadAgg rfl ag51 rfl (Cels.all (cs := lkC (some m)) inn) (by first | rfl | ((try simp only [List.length_map, List.length_set, List.length_replicate]); omega))) ?_
      refine TL.as (.agg (Dat.c m).toArray) (by rfl) ?_
      refine TL.eff rfl rfl rfl (X.litD (sz := 3) m rfl Try.underlying28 (by kernel_rfl) rfl rfl (by decide)) ?_
      rintro _ _ ⟨g72, rfl, rfl⟩
      refine TL.eff rfl rfl rfl (X.appendS rfl el28 rfl pul rfl (by first | exact Src.owns Try.underlying28 inn | exact Src.rds Try.underlying28 inn | exact Src.reads (by assumption) Try.underlying28 inn) (by simp only [maxLen]; omega) (by omega)) ?_
      rintro _ _ ⟨a73, c73, rfl, rfl⟩
      refine TL.val rfl rfl rfl (Y.assign rfl rfl) ?_
      refine TL.nil ?_
      refine TQ.to (Ent.addEl (x := m) (ys := got) pul pul) ?_
      rw [show Dat.cs got ++ Dat.c m = Dat.cs (got ++ [m]) by rw [Dat.cs_app]; simp [Dat.cs]; rfl, show got.length + 1 = (got ++ [m]).length by simp]
      refine TQ.block_normal ?_
      refine TQ.loopF ((w', S2.step1, a73, c73, got ++ [m])) (⟨Win_next hw2, by rw [List.length_append]; show w' + (got.length + 1) = 32; omega, by rw [hd2]; simp⟩) (by show w' < w' + 1; omega) ⟨rfl, trivial⟩ (by (repeat first | apply Grow.refl | apply Grow.step | apply Grow.app)) ?_ ?_ ?_
      · kernel_rfl
      · rfl
      · simp only [List.cons_append, List.nil_append]
        exact ett
end ac
end Go.Proofs.Ytomplpdeeomehaa
