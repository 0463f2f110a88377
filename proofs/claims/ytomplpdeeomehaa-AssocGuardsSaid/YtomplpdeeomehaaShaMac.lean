/- The HMAC, the program's and the document's. -/
import Derived.Test.YtomplpdeeomehaaShaRef
import Derived.Test.YtomplpdeeomehaaHAuto
namespace Go.Proofs.Ytomplpdeeomehaa
set_option linter.unusedVariables false
set_option linter.unusedSimpArgs false
open Go.RowKit
namespace sha
namespace FxShaMac
set_option maxRecDepth 100000
theorem ag101 : Program.aggN Try.prog 101 = some 20 := by kernel_rfl
theorem ar105 : Program.arrI Try.prog 105 = some (64, 1) := by kernel_rfl
theorem ar106 : Program.arrI Try.prog 106 = some (2, 64) := by kernel_rfl
theorem el24 : Elt Try.prog 24 23 1 24 (.slice none 0 0) := ⟨Try.underlying24, by kernel_rfl, rfl, by decide, by simp [Value.cells, Value.oneCell']⟩
theorem sc5 : Program.isSc Try.prog 5 = true := by kernel_rfl
theorem sz101 : (Try.prog.info? 101).map (·.size) = some 20 := by kernel_rfl
theorem sz5 : (Try.prog.info? 5).map (·.size) = some 1 := by kernel_rfl
theorem zc101 : Program.zeroC Try.prog 101 = some ((List.replicate 20 (0 : UInt8)).map v8).toArray := by kernel_rfl
theorem zc106 : Program.zeroC Try.prog 106 = some ((List.replicate 128 (0 : UInt8)).map v8).toArray := by kernel_rfl
theorem zc107 : Program.zeroC Try.prog 107 = some ((List.replicate 2 (0 : UInt8)).map v8).toArray := by kernel_rfl
end FxShaMac
open FxShaMac
def keyed (key : List UInt8) : List UInt8 := if 64 < key.length then sha key else key
def row (kb : List UInt8) (x : UInt8) : List UInt8 := tab 64 fun m => kb.getD m 0 ^^^ x
def mac (key msg : List UInt8) : List UInt8 := sha (row (keyed key) 92 ++ sha (row (keyed key) 54 ++ msg))
theorem mac_len (key msg : List UInt8) : (mac key msg).length = 20 := sha_len _
theorem keyed_len (key : List UInt8) : (keyed key).length ≤ 64 := by
  unfold keyed; split
  · rw [sha_len]; decide
  · omega
def px (i : Nat) : UInt8 := if i = 0 then 54 else 92
/-- the pads: rows before i done, row i up to j -/
def pads (kb : List UInt8) (i j : Nat) : List UInt8 := tab 128 fun m => if m / 64 < i then kb.getD (m % 64) 0 ^^^ px (m / 64) else if m / 64 = i then (if m % 64 < j then kb.getD (m % 64) 0 ^^^ px i else kb.getD (m % 64) 0) else 0
def pads0 (kb : List UInt8) (i : Nat) : List UInt8 := tab 128 fun m => if m / 64 < i then kb.getD (m % 64) 0 ^^^ px (m / 64) else 0
theorem pads0_0 (kb : List UInt8) : List.replicate 128 0 = pads0 kb 0 := by rw [tab_rep, pads0]; exact tab_congr fun i hi => by simp
theorem pads_copy (kb : List UInt8) (i : Nat) (hi : i < 2) (hk : kb.length ≤ 64) : (pads0 kb i).take (i * 64) ++ kb ++ (pads0 kb i).drop (i * 64 + kb.length) = pads kb i 0 := by
  rw [pads0, tab_write (d := 0) (by omega), pads]
  refine tab_congr fun m hm => ?_
  by_cases h1 : i * 64 ≤ m ∧ m < i * 64 + kb.length
  · rw [if_pos h1, if_neg (by omega), if_pos (by omega), if_neg (by omega)]; congr 1; omega
  · rw [if_neg h1]
    by_cases h2 : m / 64 < i
    · rw [if_pos h2, if_pos h2]
    · rw [if_neg h2, if_neg h2]
      by_cases h3 : m / 64 = i
      · rw [if_pos h3, if_neg (by omega), List.getD_eq_getElem?_getD, List.getElem?_eq_none (by omega)]; rfl
      · rw [if_neg h3]
theorem pads_set (kb : List UInt8) (i j : Nat) (hi : i < 2) (hj : j < 64) : (pads kb i j).set (i * 64 + j) ((pads kb i j).getD (i * 64 + j) 0 ^^^ px i) = pads kb i (j + 1) := by
  have e : (pads kb i j).getD (i * 64 + j) 0 = kb.getD j 0 := by
    rw [pads, tab_getD (by omega), if_neg (by omega), if_pos (by omega), if_neg (by omega)]; congr 1; omega
  rw [e, pads, tab_set, pads]
  refine tab_congr fun m hm => ?_
  by_cases h : m = i * 64 + j
  · rw [if_pos h, if_neg (by omega), if_pos (by omega), if_pos (by omega)]; congr 2; omega
  · rw [if_neg h]
    by_cases h2 : m / 64 < i
    · rw [if_pos h2, if_pos h2]
    · rw [if_neg h2, if_neg h2]
      by_cases h3 : m / 64 = i
      · rw [if_pos h3, if_pos h3]
        by_cases h4 : m % 64 < j
        · rw [if_pos h4, if_pos (by omega)]
        · rw [if_neg h4, if_neg (by omega)]
      · rw [if_neg h3, if_neg h3]
theorem pads_64 (kb : List UInt8) (i : Nat) : pads kb i 64 = pads0 kb (i + 1) := by
  rw [pads, pads0]
  refine tab_congr fun m hm => ?_
  by_cases h2 : m / 64 < i
  · rw [if_pos h2, if_pos (by omega)]
  · rw [if_neg h2]
    by_cases h3 : m / 64 = i
    · rw [if_pos h3, if_pos (by omega), if_pos (by omega), h3]
    · rw [if_neg h3, if_neg (by omega)]
theorem pads_len (kb : List UInt8) (i j : Nat) : (pads kb i j).length = 128 := tab_len
theorem pads0_len (kb : List UInt8) (i : Nat) : (pads0 kb i).length = 128 := tab_len
theorem row_len (kb : List UInt8) (x : UInt8) : (row kb x).length = 64 := tab_len
theorem pads0_row (kb : List UInt8) (r : Nat) (hr : r < 2) : ∀ j u, ((row kb (px r)).map v8)[j]? = some u → ((pads0 kb 2).map v8).toArray[r * 64 + j]? = some u := by
  intro j u h
  rw [List.getElem?_toArray]
  rw [List.getElem?_map] at h ⊢
  rw [row, tab_get] at h
  rw [pads0, tab_get]
  split at h
  · rw [if_pos (by omega), if_pos (by omega)]
    rw [show (r * 64 + j) % 64 = j by omega, show (r * 64 + j) / 64 = r by omega]
    exact h
  · cases h
theorem getPx {k : Nat} (h : k < 2) : (#[Value.int .u8 54, Value.int .u8 92] : Array Value)[k]? = some (v8 (px k)) := by
  match k, h with
  | 0, _ => rfl
  | 1, _ => rfl
set_option maxHeartbeats 4000000 in
theorem mac_fn (a : Option Addr) (n cap : Nat) (key : List UInt8) (hn : key.length = n) (am : Option Addr) (nm cm : Nat) (msg : List UInt8) (hm : msg.length = nm) (hln : n ≤ 140737488353000) (hlm : nm ≤ 140737488353000) (L : List SA) :
    Fn Try.prog 54 [.slice a n cap, .slice am nm cm] (SA.rds 1 (.slice a n cap) n (key.map v8) :: SA.rds 1 (.slice am nm cm) nm (msg.map v8) :: L)
      (fun v L' => v = .agg ((mac key msg).map v8).toArray ∧ L' = SA.rds 1 (.slice a n cap) n (key.map v8) :: SA.rds 1 (.slice am nm cm) nm (msg.map v8) :: L) := by
  subst hn; subst hm
  refine Fn.of (N := 52) Try.func54 rfl rfl ?_
  intro Xh
  refine TC.to (Ent.dup Dup.rds) ?_
  refine TC.seq ?_
  refine TC.region ?_
  refine TL.eff rfl rfl rfl (X.alloc rfl zc101) ?_
  rintro _ _ ⟨b4, rfl, rfl⟩
  refine TL.nil ?_
  refine TQ.next ?_
  refine TC.cutF (ι := Option Addr × Nat) [] (fun _ => True) (fun i => [(0, some (.slice i.1 (keyed key).length i.2))]) (fun i => [SA.rds 1 (.slice i.1 (keyed key).length i.2) (keyed key).length ((keyed key).map v8)]) (Ao := [SA.rds 1 (.slice a key.length cap) key.length (key.map v8)]) (Pulls.cons pul Pulls.nil) ?_ ?_
  · rintro L' hL'
    simp only [List.cons_append, List.nil_append] at hL'
    subst hL'
    refine TC.seq ?_
    refine TC.region ?_
    refine TL.val rfl rfl rfl (Y.move rfl rfl) ?_
    refine TL.val rfl rfl rfl (Y.len rfl Try.underlying23 rfl) ?_
    refine TL.val rfl rfl rfl (Y.bin rfl rfl rfl (br_gtN (n := 64))) ?_
    refine TL.nil ?_
    refine TQ.next ?_
    refine TC.cond rfl (fun c0 => ?_) (fun c0 => ?_)
    · try simp only [decide_eq_true_eq, decide_eq_false_iff_not, Bool.not_eq_true', Bool.not_eq_false', Bool.and_eq_true, Bool.or_eq_true, Nat.not_lt, Nat.not_le, beq_iff_eq, bne_iff_ne] at c0
      have hk : keyed key = sha key := if_pos c0
      refine TC.to (Ent.part1 (x := (a, cap, key))) ?_
      refine TC.seq ?_
      refine TC.region ?_
      refine TL.val rfl rfl rfl (Y.move rfl rfl) ?_
      refine TL.eff rfl rfl rfl (X.lit rfl el24 rfl rfl rfl (by decide) rfl) ?_
      rintro _ _ ⟨g15, rfl, rfl⟩
      refine TL.eff rfl rfl rfl (X.call rfl Try.func56 (by kernel_rfl) rfl rfl (Fn.pre (sum_fn _ _ _ _ [(a, cap, key)] _ (Reads.owns (e := 23)) rfl rfl (by simp [cat]; omega) _) (Ent.cons pul (Ent.cons pul Ent.refl)))) ?_
      rintro _ _ ⟨rfl, rfl⟩
      rw [show cat [(a, cap, key)] = key by simp [cat]]
      have hsl := sha_len key
      refine TL.eff rfl rfl rfl (X.alloc rfl zc101) ?_
      rintro _ _ ⟨b5, rfl, rfl⟩
      refine TL.eff0 rfl rfl (by first | exact X.storeAll rfl sz101 szz rfl rfl (by simp [Value.oneCell']) pul szz | exact X.storeAgg rfl sz101 szz rfl rfl (by simp [Value.oneCell']) pul szz (writeM (by ((try simp only [List.length_set, List.length_map, List.length_append, List.length_replicate]); omega)))) ?_
      rintro _ _ rfl
      refine TL.nil ?_
      refine TQ.next ?_
      refine TC.region ?_
      refine TL.val rfl rfl rfl (Y.sliceArr rfl Try.underlying101 sz5 rfl) ?_
      refine TL.val rfl rfl rfl (Y.assign rfl rfl) ?_
      refine TL.nil ?_
      refine TQ.to (Ent.trans (Pull.ent (A := SA.blk b5 _ _) pul) (Ent.freezeB.trans (Ent.rblkRds (sz := 1) (k := 0) (n := 20) (c := 20) (l := (sha key).map v8) (by simp [sha_len]) one8 (Nat.le_refl _) (by decide) (fun j u h => by simpa using h)))) ?_
      refine TQ.meetF ((_, _)) (trivial) (by first | exact ⟨by rw [hk]; rfl, trivial⟩ | exact ⟨by rw [hk, sha_len]; rfl, trivial⟩) (by (repeat first | apply Grow.refl | apply Grow.step | apply Grow.app)) ?_ ?_
      · kernel_rfl
      · simp only [List.cons_append, List.nil_append]
        exact (by first | (rw [hk, sha_len]; exact ett) | (rw [hk]; exact ett))
    · try simp only [decide_eq_true_eq, decide_eq_false_iff_not, Bool.not_eq_true', Bool.not_eq_false', Bool.and_eq_true, Bool.or_eq_true, Nat.not_lt, Nat.not_le, beq_iff_eq, bne_iff_ne] at c0
      have hk : keyed key = key := if_neg (by omega)
      refine TC.skip ?_
      refine TQ.meetF ((_, _)) (trivial) (by first | exact ⟨by rw [hk]; rfl, trivial⟩ | exact ⟨by rw [hk, sha_len]; rfl, trivial⟩) (by (repeat first | apply Grow.refl | apply Grow.step | apply Grow.app)) ?_ ?_
      · kernel_rfl
      · simp only [List.cons_append, List.nil_append]
        exact (by first | (rw [hk, sha_len]; exact ett) | (rw [hk]; exact ett))
  · rintro ⟨ak, ck⟩ - F' L' rfl hL'
    simp only [List.cons_append, List.nil_append] at hL'
    subst hL'
    have hkl := keyed_len key
    generalize hkb : keyed key = kb at hkl ⊢
    refine TC.seq ?_
    refine TC.region ?_
    refine TL.eff rfl rfl rfl (X.alloc rfl zc106) ?_
    rintro _ _ ⟨b6, rfl, rfl⟩
    refine TL.nil ?_
    refine TQ.next ?_
    refine TC.seq ?_
    refine TC.seq ?_
    refine TC.region ?_
    refine TL.val rfl rfl rfl (Y.buildM rfl rfl Try.underlying107 sz5 zc107 rfl rfl rfl (by first | exact (by simp only [List.all_cons, List.all_nil, Value.oneCell', Bool.and_self]) | rfl)) ?_
    refine TL.val rfl rfl rfl (Y.move rfl rfl) ?_
    refine TL.nil ?_
    refine TQ.next ?_
    refine TC.block ?_
    refine TC.loopF (ι := Nat) [] (fun k => k ≤ 2) (fun k => [(19, some (vN k))]) (fun k => [SA.blk b6 ((pads0 kb k).map v8).toArray 106]) (fun k => 2 - k) (0) (by omega) ⟨rfl, trivial⟩ (by rw [← pads0_0]; exact Pulls.cons pul Pulls.nil) ?_
    rintro k hk F' L' rfl hL'
    simp only [List.cons_append, List.nil_append] at hL'
    subst hL'
    have hpl := pads0_len kb k
    refine TC.seq ?_
    refine TC.region ?_
    refine TL.val rfl rfl rfl (Y.bin rfl rfl rfl (br_ltN (n := 2))) ?_
    refine TL.nil ?_
    refine TQ.next ?_
    refine TC.seq ?_
    refine TC.cond rfl (fun c1 => ?_) (fun c1 => ?_)
    · try simp only [decide_eq_true_eq, decide_eq_false_iff_not, Bool.not_eq_true', Bool.not_eq_false', Bool.and_eq_true, Bool.or_eq_true, Nat.not_lt, Nat.not_le, beq_iff_eq, bne_iff_ne] at c1
      refine TC.skip ?_
      refine TQ.next ?_
      refine TC.seq ?_
      refine TC.block ?_
      refine TC.seq ?_
      refine TC.region ?_
      refine TL.val rfl rfl rfl (Y.move rfl rfl) ?_
      refine TL.val rfl rfl rfl (Y.indexAgg rfl Try.underlying107 sc5 sz5 rfl rfl (by omega) (getPx (by omega))) ?_
      refine TL.val rfl rfl rfl (Y.assign rfl rfl) ?_
      refine TL.val rfl rfl rfl (Y.assign rfl rfl) ?_
      refine TL.nil ?_
      refine TQ.next ?_
      refine TC.seq ?_
      refine TC.region ?_
      refine TL.val rfl rfl rfl (Y.move rfl rfl) ?_
      refine TL.val rfl rfl rfl (Y.indexArr rfl ar106 rfl rfl (by omega) nqq) ?_
      refine TL.val rfl rfl rfl (Y.sliceArr rfl Try.underlying105 sz5 rfl) ?_
      refine TL.val rfl rfl rfl (Y.move rfl rfl) ?_
      refine TL.eff rfl rfl rfl (X.copyBlk rfl Try.underlying23 sz5 rfl rfl (Src.rds Try.underlying23 inn) pul (by omega) (by simp [pads0_len]; omega) (by rw [writeAt_list _ _ _ (by simp [pads0_len]; omega)])) ?_
      rintro _ _ ⟨rfl, rfl⟩
      refine TL.nil ?_
      refine TQ.next ?_
      refine TC.seq ?_
      refine TC.region ?_
      refine TL.val rfl rfl rfl (Y.move rfl rfl) ?_
      refine TL.nil ?_
      refine TQ.next ?_
      refine TC.block ?_
      have ep : (List.take (k * 64) (List.map v8 (pads0 kb k)) ++ List.map v8 kb ++ List.drop (k * 64 + (List.map v8 kb).length) (List.map v8 (pads0 kb k))) = List.map v8 (pads kb k 0) := by rw [← pads_copy kb k (by omega) hkl]; simp
      rw [ep]
      refine TC.loopF (ι := Nat) [] (fun j => j ≤ 64) (fun j => [(28, some (vN j))]) (fun j => [SA.blk b6 ((pads kb k j).map v8).toArray 106]) (fun j => 64 - j) (0) (by omega) ⟨rfl, trivial⟩ (Pulls.cons pul Pulls.nil) ?_
      rintro j hj F' L' rfl hL'
      simp only [List.cons_append, List.nil_append] at hL'
      subst hL'
      have hpl2 := pads_len kb k j
      refine TC.seq ?_
      refine TC.region ?_
      refine TL.val rfl rfl rfl (Y.bin rfl rfl rfl (br_ltN (n := 64))) ?_
      refine TL.nil ?_
      refine TQ.next ?_
      refine TC.seq ?_
      refine TC.cond rfl (fun c2 => ?_) (fun c2 => ?_)
      · try simp only [decide_eq_true_eq, decide_eq_false_iff_not, Bool.not_eq_true', Bool.not_eq_false', Bool.and_eq_true, Bool.or_eq_true, Nat.not_lt, Nat.not_le, beq_iff_eq, bne_iff_ne] at c2
        refine TC.skip ?_
        refine TQ.next ?_
        refine TC.seq ?_
        refine TC.block ?_
        refine TC.seq ?_
        refine TC.region ?_
        refine TL.val rfl rfl rfl (Y.move rfl rfl) ?_
        refine TL.val rfl rfl rfl (Y.assign rfl rfl) ?_
        refine TL.nil ?_
        refine TQ.next ?_
        refine TC.draws 9 _ (by kernel_rfl) (by kernel_rfl) (fun _ h => h) ?_
        refine TA.take 0 rfl rfl rfl rfl (by kernel_rfl) (by kernel_rfl) (by kernel_rfl) rfl (by kernel_rfl) (by kernel_rfl) (fun _ _ _ h => h) (Y.move rfl rfl) ?_
        refine TA.take 1 rfl rfl rfl rfl (by kernel_rfl) (by kernel_rfl) (by kernel_rfl) rfl (by kernel_rfl) (by kernel_rfl) (fun _ _ _ h => h) (Y.move rfl rfl) ?_
        refine TA.take 2 rfl rfl rfl rfl (by kernel_rfl) (by kernel_rfl) (by kernel_rfl) rfl (by kernel_rfl) (by kernel_rfl) (fun _ _ _ h => h) (Y.indexArr rfl ar106 rfl rfl (by omega) nqq) ?_
        refine TA.take 3 rfl rfl rfl rfl (by kernel_rfl) (by kernel_rfl) (by kernel_rfl) rfl (by kernel_rfl) (by kernel_rfl) (fun _ _ _ h => h) (Y.indexArr rfl ar105 rfl rfl (by omega) nqq) ?_
        refine TA.take 4 rfl rfl rfl rfl (by kernel_rfl) (by kernel_rfl) (by kernel_rfl) rfl (by kernel_rfl) (by kernel_rfl) (fun _ _ _ h => h) (Y.load rfl sc5 rfl ceo8) ?_
        refine TA.take 5 rfl rfl rfl rfl (by kernel_rfl) (by kernel_rfl) (by kernel_rfl) rfl (by kernel_rfl) (by kernel_rfl) (fun _ _ _ h => h) (Y.move rfl rfl) ?_
        refine TA.take 6 rfl rfl rfl rfl (by kernel_rfl) (by kernel_rfl) (by kernel_rfl) rfl (by kernel_rfl) (by kernel_rfl) (fun _ _ _ h => h) (Y.bin rfl rfl rfl (br_xor8)) ?_
        refine TA.takeP 7 rfl rfl rfl rfl (by kernel_rfl) (by kernel_rfl) (by kernel_rfl) rfl (fun _ _ _ h => h) (Y.indexArr rfl ar106 rfl rfl (by omega) nqq) ?_
        refine TA.take 8 rfl rfl rfl rfl (by kernel_rfl) (by kernel_rfl) (by kernel_rfl) rfl (by kernel_rfl) (by kernel_rfl) (fun _ _ _ h => h) (Y.indexArr rfl ar105 rfl rfl (by omega) nqq) ?_
        refine TA.one0 9 (by kernel_rfl) rfl rfl rfl (by first | exact X.store rfl sz5 rfl rfl rfl pul lnn (by first | exact setM | rfl) | exact X.storeOwn rfl sz5 rfl (Nat.zero_add _).symm rfl rfl pul lnn (by first | exact setML | rfl) | exact X.storeOwn rfl sz5 rfl rfl rfl rfl pul lnn (by first | exact setML | rfl)) ?_
        rintro _ _ rfl
        refine ⟨(Or.inl (by kernel_rfl)), ?_⟩
        refine TA.done (by kernel_rfl) ?_
        refine TQ.block_normal ?_
        refine TQ.next ?_
        refine TC.region ?_
        refine TL.val rfl rfl rfl (Y.bin rfl rfl rfl (br_addN (n := 1) (by omega))) ?_
        refine TL.val rfl rfl rfl (Y.move rfl rfl) ?_
        refine TL.nil ?_
        refine TQ.loopF (j + 1) (by omega) (by omega) ⟨rfl, trivial⟩ (by (repeat first | apply Grow.refl | apply Grow.step | apply Grow.app)) ?_ ?_ ?_
        · kernel_rfl
        · rfl
        · simp only [List.cons_append, List.nil_append]
          exact (by rw [← pads_set kb k j (by omega) (by omega)]; exact ett)
      · try simp only [decide_eq_true_eq, decide_eq_false_iff_not, Bool.not_eq_true', Bool.not_eq_false', Bool.and_eq_true, Bool.or_eq_true, Nat.not_lt, Nat.not_le, beq_iff_eq, bne_iff_ne] at c2
        refine TC.exit ?_
        refine TQ.then_exit ?_
        refine TQ.then_exit ?_
        refine TQ.block_exit ?_
        refine TQ.block_normal ?_
        refine TQ.next ?_
        refine TC.region ?_
        refine TL.val rfl rfl rfl (Y.bin rfl rfl rfl (br_addN (n := 1) (by omega))) ?_
        refine TL.val rfl rfl rfl (Y.move rfl rfl) ?_
        refine TL.nil ?_
        obtain rfl : j = 64 := by omega
        rw [pads_64]
        refine TQ.loopF (k + 1) (by omega) (by omega) ⟨rfl, trivial⟩ (by (repeat first | apply Grow.refl | apply Grow.step | apply Grow.app)) ?_ ?_ ?_
        · kernel_rfl
        · rfl
        · simp only [List.cons_append, List.nil_append]
          exact ett
    · try simp only [decide_eq_true_eq, decide_eq_false_iff_not, Bool.not_eq_true', Bool.not_eq_false', Bool.and_eq_true, Bool.or_eq_true, Nat.not_lt, Nat.not_le, beq_iff_eq, bne_iff_ne] at c1
      refine TC.exit ?_
      refine TQ.then_exit ?_
      refine TQ.then_exit ?_
      refine TQ.block_exit ?_
      refine TQ.next ?_
      refine TC.seq ?_
      obtain rfl : k = 2 := by omega
      have hr0 := row_len kb 54
      have hr1 := row_len kb 92
      refine TC.to (Ent.trans (Pull.ent (A := SA.blk b6 _ _) pul) (Ent.freezeB.trans ((Ent.dup Dup.rblk).trans (Ent.rblkRds (sz := 1) (k := 0) (n := 64) (c := 64) (l := (row kb 54).map v8) (by simp [hr0]) one8 (Nat.le_refl _) (by decide) (fun j u h => by have := pads0_row kb 0 (by decide) j u h; simpa using this))))) ?_
      refine TC.to (Ent.trans (Pull.ent (A := SA.rds 1 (.slice am _ _) _ _) pul) Ent.swap) ?_
      refine TC.to (Ent.trans (by rw [show (64 : Nat) = (row kb 54).length from hr0.symm]; exact Ent.refl) (Ent.part2 (x := (some ⟨b6, 0, none⟩, 64, row kb 54)) (z := (am, cm, msg)))) ?_
      refine TC.region ?_
      refine TL.val rfl rfl rfl (Y.indexArr (j := 0) rfl ar106 rfl rfl (by omega) nqq) ?_
      refine TL.val rfl rfl rfl (Y.sliceArr rfl Try.underlying105 sz5 rfl) ?_
      refine TL.val rfl rfl rfl (Y.move rfl rfl) ?_
      refine TL.eff rfl rfl rfl (X.lit rfl el24 rfl rfl rfl (by decide) rfl) ?_
      rintro _ _ ⟨g45, rfl, rfl⟩
      refine TL.eff rfl rfl rfl (X.call rfl Try.func56 (by kernel_rfl) rfl rfl (Fn.pre (sum_fn _ _ _ _ [(some ⟨b6, 0, none⟩, 64, row kb 54), (am, cm, msg)] [.slice (some ⟨b6, 0, none⟩) 64 64, .slice am msg.length cm] (Reads.owns (e := 23)) (by simp [pv, hr0]) rfl (by simp [cat, hr0]; omega) _) (Ent.cons pul (Ent.cons pul Ent.refl)))) ?_
      rintro _ _ ⟨rfl, rfl⟩
      rw [show cat [(some ⟨b6, 0, none⟩, 64, row kb 54), (am, cm, msg)] = row kb 54 ++ msg by simp [cat]]
      have hsl := sha_len (row kb 54 ++ msg)
      generalize hH : sha (row kb 54 ++ msg) = h at hsl ⊢
      refine TL.eff rfl rfl rfl (X.alloc rfl zc101) ?_
      rintro _ _ ⟨b10, rfl, rfl⟩
      refine TL.eff0 rfl rfl (by first | exact X.storeAll rfl sz101 szz rfl rfl (by simp [Value.oneCell']) pul szz | exact X.storeAgg rfl sz101 szz rfl rfl (by simp [Value.oneCell']) pul szz (writeM (by ((try simp only [List.length_set, List.length_map, List.length_append, List.length_replicate]); omega)))) ?_
      rintro _ _ rfl
      refine TL.nil ?_
      refine TQ.next ?_
      refine TC.seq ?_
      refine TC.to (Ent.trans (Pull.ent (A := SA.blk b10 _ _) pul) (Ent.freezeB.trans (Ent.rblkRds (sz := 1) (k := 0) (n := h.length) (c := 20) (l := h.map v8) (by simp) one8 (by omega) (by decide) (fun j u h => by simpa using h)))) ?_
      refine TC.to (Ent.trans (Pull.ent (A := SA.rblk b6 _ _) pul) (Ent.rblkRds (sz := 1) (k := 64) (n := (row kb 92).length) (c := 64) (l := (row kb 92).map v8) (by simp) one8 (by omega) (by decide) (fun j u h => by have := pads0_row kb 1 (by decide) j u h; simpa using this))) ?_
      refine TC.to (Ent.part2 (x := (some ⟨b6, 64, none⟩, 64, row kb 92)) (z := (some ⟨b10, 0, none⟩, 20, h))) ?_
      refine TC.draws 5 [] (by kernel_rfl) (by kernel_rfl) (fun _ _ A hA => by cases hA) ?_
      refine TA.take 0 rfl rfl rfl rfl (by kernel_rfl) (by kernel_rfl) (by kernel_rfl) rfl (by kernel_rfl) (by kernel_rfl) (fun _ _ _ h => h) (Y.indexArr (j := 1) rfl ar106 rfl rfl (by omega) nqq) ?_
      refine TA.take 1 rfl rfl rfl rfl (by kernel_rfl) (by kernel_rfl) (by kernel_rfl) rfl (by kernel_rfl) (by kernel_rfl) (fun _ _ _ h => h) (Y.sliceArr rfl Try.underlying105 sz5 rfl) ?_
      refine TA.take 2 rfl rfl rfl rfl (by kernel_rfl) (by kernel_rfl) (by kernel_rfl) rfl (by kernel_rfl) (by kernel_rfl) (fun _ _ _ h => h) (Y.sliceArr rfl Try.underlying101 sz5 rfl) ?_
      refine TA.one 3 (by kernel_rfl) rfl rfl rfl rfl (X.lit rfl el24 rfl rfl rfl (by decide) rfl) ?_
      rintro _ _ ⟨g50, rfl, rfl⟩
      refine ⟨(Or.inr (fun w h A hA => by cases hA)), ?_⟩
      refine TA.one 4 (by kernel_rfl) rfl rfl rfl rfl (X.call rfl Try.func56 (by kernel_rfl) rfl rfl (Fn.pre (sum_fn _ _ _ _ [(some ⟨b6, 64, none⟩, 64, row kb 92), (some ⟨b10, 0, none⟩, 20, h)] [.slice (some ⟨b6, 64, none⟩) 64 64, .slice (some ⟨b10, 0, none⟩) 20 20] (Reads.owns (e := 23)) (by simp [pv, hr1, hsl]) rfl (by simp [cat, hr1, hsl]) _) (Ent.cons pul (Ent.cons pul Ent.refl)))) ?_
      rintro _ _ ⟨rfl, rfl⟩
      rw [show cat [(some ⟨b6, 64, none⟩, 64, row kb 92), (some ⟨b10, 0, none⟩, 20, h)] = row kb 92 ++ h by simp [cat]]
      have hsl2 := sha_len (row kb 92 ++ h)
      refine ⟨(Or.inr (fun w h A hA => by cases hA)), ?_⟩
      refine TA.one0 5 (by kernel_rfl) rfl rfl rfl (by first | exact X.storeAll rfl sz101 szz rfl rfl (by simp [Value.oneCell']) pul szz | exact X.storeAgg rfl sz101 szz rfl rfl (by simp [Value.oneCell']) pul szz (writeM (by ((try simp only [List.length_set, List.length_map, List.length_append, List.length_replicate]); omega)))) ?_
      rintro _ _ rfl
      refine ⟨(Or.inl (by kernel_rfl)), ?_⟩
      refine TA.done (by kernel_rfl) ?_
      refine TQ.next ?_
      refine TC.ret ?_
      refine TQ.retE (resC rfl ag101 rfl (Cels.full inn) szz) (⟨by rw [mac, hkb, hH], rfl⟩) ?_
      exact ett
end sha
end Go.Proofs.Ytomplpdeeomehaa
