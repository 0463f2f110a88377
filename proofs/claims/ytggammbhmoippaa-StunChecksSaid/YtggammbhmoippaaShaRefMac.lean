/- The document's HMAC. -/
import Derived.Test.YtggammbhmoippaaShaMac
import Derived.Test.YtggammbhmoippaaHAuto
namespace Go.Proofs.Ytggammbhmoippaa
set_option linter.unusedVariables false
set_option linter.unusedSimpArgs false
open Go.RowKit
namespace sha
namespace FxShaRefMac
set_option maxRecDepth 100000
theorem ag83 : Program.aggN Try.prog 83 = some 20 := by kernel_rfl
theorem ar95 : Program.arrI Try.prog 95 = some (64, 1) := by kernel_rfl
theorem el27 : Elt Try.prog 27 5 1 1 (.int .u8 0) := ⟨Try.underlying27, by kernel_rfl, rfl, by decide, by simp [Value.cells, Value.oneCell']⟩
theorem sc5 : Program.isSc Try.prog 5 = true := by kernel_rfl
theorem sz5 : (Try.prog.info? 5).map (·.size) = some 1 := by kernel_rfl
theorem sz83 : (Try.prog.info? 83).map (·.size) = some 20 := by kernel_rfl
theorem zc83 : Program.zeroC Try.prog 83 = some ((List.replicate 20 (0 : UInt8)).map v8).toArray := by kernel_rfl
theorem zc95 : Program.zeroC Try.prog 95 = some ((List.replicate 64 (0 : UInt8)).map v8).toArray := by kernel_rfl
end FxShaRefMac
open FxShaRefMac
theorem Src.blk {P : Program} {As : List SA} {sz n c b k t tx e' : Nat} {cs : Array Value} {l : List Value} (hk : P.underlying tx = some (.slice e')) (h : In (SA.blk b cs t) As) (hl : l.length = n * sz) (h1 : ∀ u ∈ l, u.oneCell' = true) (hv : ∀ j u, l[j]? = some u → cs[k + j]? = some u) :
    ∀ w, Holds As w → Src P sz tx (.slice (some ⟨b, k, none⟩) n c) n l w := fun w hw => by
  obtain ⟨O, R, hb⟩ := hw _ h
  exact Src.ofSlice w hk _ n c l hl (fun j u hj => by rw [Addr.add_lit, hb.2.cell]; exact hv j u hj) h1
def kt (kb : List UInt8) : List UInt8 := tab 64 fun m => kb.getD m 0
theorem kt_len (kb : List UInt8) : (kt kb).length = 64 := tab_len
theorem kt_copy (kb : List UInt8) (hk : kb.length ≤ 64) : writeAt ((List.replicate 64 (0 : UInt8)).map v8).toArray 0 (kb.map v8) = ((kt kb).map v8).toArray := by
  rw [writeAt_list _ _ _ (by simp; omega), ← List.map_take, ← List.map_drop, ← List.map_append, ← List.map_append, tab_rep]
  have := tab_write (n := 64) (k := 0) (f := fun _ => (0 : UInt8)) (xs := kb) (d := 0) (by omega)
  simp only [List.length_map]
  rw [this]
  refine congrArg (fun l => (List.map v8 l).toArray) (tab_congr fun m hm => ?_)
  by_cases h : m < kb.length
  · rw [if_pos (by omega)]; congr 1
  · rw [if_neg (by omega), List.getD_eq_getElem?_getD, List.getElem?_eq_none (by omega)]; rfl
def rj (kb : List UInt8) (x : UInt8) (j : Nat) : List UInt8 := tab j fun m => kb.getD m 0 ^^^ x
theorem rj_s (kb : List UInt8) (x : UInt8) (j : Nat) (hj : j < 64) : List.map v8 (rj kb x j) ++ [v8 ((kt kb).getD j 0 ^^^ x)] = List.map v8 (rj kb x (j + 1)) := by
  rw [rj, rj, tab_succ, kt, tab_getD hj]; simp
set_option maxHeartbeats 4000000 in
theorem refMac_fn (a : Option Addr) (n cap : Nat) (key : List UInt8) (hn : key.length = n) (am : Option Addr) (nm cm : Nat) (msg : List UInt8) (hm : msg.length = nm) (hln : n ≤ 140737488353000) (hlm : nm ≤ 140737488353000) (L : List SA) :
    Fn Try.prog 46 [.slice a n cap, .slice am nm cm] (SA.rds 1 (.slice a n cap) n (key.map v8) :: SA.rds 1 (.slice am nm cm) nm (msg.map v8) :: L)
      (fun v L' => v = .agg ((mac key msg).map v8).toArray ∧ L' = SA.rds 1 (.slice a n cap) n (key.map v8) :: SA.rds 1 (.slice am nm cm) nm (msg.map v8) :: L) := by
  subst hn; subst hm
  refine Fn.of (N := 48) Try.func46 rfl rfl ?_
  intro Xh
  refine TC.seq ?_
  refine TC.region ?_
  refine TL.eff rfl rfl rfl (X.alloc rfl zc83) ?_
  rintro _ _ ⟨b4, rfl, rfl⟩
  refine TL.nil ?_
  refine TQ.next ?_
  refine TC.seq ?_
  refine TC.region ?_
  refine TL.eff rfl rfl rfl (X.alloc rfl zc95) ?_
  rintro _ _ ⟨b5, rfl, rfl⟩
  refine TL.nil ?_
  refine TQ.next ?_
  refine TC.cutF (ι := Unit) [] (fun _ => True) (fun _ => []) (fun _ => [SA.blk b5 ((kt (keyed key)).map v8).toArray 95]) (Ao := [SA.blk b5 ((List.replicate 64 (0 : UInt8)).map v8).toArray 95]) (Pulls.cons pul Pulls.nil) ?_ ?_
  · rintro L' hL'
    simp only [List.cons_append, List.nil_append] at hL'
    subst hL'
    refine TC.seq ?_
    refine TC.region ?_
    refine TL.val rfl rfl rfl (Y.move rfl rfl) ?_
    refine TL.val rfl rfl rfl (Y.len rfl Try.underlying27 rfl) ?_
    refine TL.val rfl rfl rfl (Y.bin rfl rfl rfl (br_gtN (n := 64))) ?_
    refine TL.nil ?_
    refine TQ.next ?_
    refine TC.cond rfl (fun c0 => ?_) (fun c0 => ?_)
    · try simp only [decide_eq_true_eq, decide_eq_false_iff_not, Bool.not_eq_true', Bool.not_eq_false', Bool.and_eq_true, Bool.or_eq_true, Nat.not_lt, Nat.not_le, beq_iff_eq, bne_iff_ne] at c0
      have hk : keyed key = sha key := if_pos c0
      have hsl := sha_len key
      refine TC.seq ?_
      refine TC.region ?_
      refine TL.val rfl rfl rfl (Y.move rfl rfl) ?_
      refine TL.eff rfl rfl rfl (X.call rfl Try.func57 (by kernel_rfl) rfl rfl (Fn.pre (refSum_fn (SA.rds 1 (.slice a key.length cap) key.length (key.map v8)) _ _ _ key Reads.rds rfl (by omega) _) (Ent.cons pul Ent.refl))) ?_
      rintro _ _ ⟨rfl, rfl⟩
      refine TL.eff rfl rfl rfl (X.alloc rfl zc83) ?_
      rintro _ _ ⟨b6, rfl, rfl⟩
      refine TL.eff0 rfl rfl (by first | exact X.storeAll rfl sz83 szz rfl rfl (by simp [Value.oneCell']) pul szz | exact X.storeAgg rfl sz83 szz rfl rfl (by simp [Value.oneCell']) pul szz (writeM (by ((try simp only [List.length_set, List.length_map, List.length_append, List.length_replicate]); omega)))) ?_
      rintro _ _ rfl
      refine TL.nil ?_
      refine TQ.next ?_
      refine TC.draws 2 [] (by kernel_rfl) (by kernel_rfl) (fun _ _ A hA => by cases hA) ?_
      refine TA.take 0 rfl rfl rfl rfl (by kernel_rfl) (by kernel_rfl) (by kernel_rfl) rfl (by kernel_rfl) (by kernel_rfl) (fun _ _ _ h => h) (Y.sliceArr rfl Try.underlying95 sz5 rfl) ?_
      refine TA.take 1 rfl rfl rfl rfl (by kernel_rfl) (by kernel_rfl) (by kernel_rfl) rfl (by kernel_rfl) (by kernel_rfl) (fun _ _ _ h => h) (Y.sliceArr rfl Try.underlying83 sz5 rfl) ?_
      refine TA.one 2 (by kernel_rfl) rfl rfl rfl rfl (X.copyBlk rfl Try.underlying27 sz5 rfl rfl (Src.blk (l := (sha key).map v8) Try.underlying27 inn (by simp [hsl]) one8 (fun j u h => by simpa using h)) pul (by decide) (by simp) (kt_copy _ (by omega))) ?_
      rintro _ _ ⟨rfl, rfl⟩
      refine ⟨(Or.inr (fun w h A hA => by cases hA)), ?_⟩
      refine TA.done (by kernel_rfl) ?_
      refine TQ.meetF (I := fun _ => True) (C := fun (_ : Unit) => []) (()) (trivial) trivial (by (repeat first | apply Grow.refl | apply Grow.step | apply Grow.app)) ?_ ?_
      · kernel_rfl
      · simp only [List.cons_append, List.nil_append]
        exact (by rw [hk]; exact ett)
    · try simp only [decide_eq_true_eq, decide_eq_false_iff_not, Bool.not_eq_true', Bool.not_eq_false', Bool.and_eq_true, Bool.or_eq_true, Nat.not_lt, Nat.not_le, beq_iff_eq, bne_iff_ne] at c0
      have hk : keyed key = key := if_neg (by omega)
      refine TC.region ?_
      refine TL.val rfl rfl rfl (Y.sliceArr rfl Try.underlying95 sz5 rfl) ?_
      refine TL.val rfl rfl rfl (Y.move rfl rfl) ?_
      refine TL.eff rfl rfl rfl (X.copyBlk rfl Try.underlying27 sz5 rfl rfl (Src.rds Try.underlying27 inn) pul (by omega) (by simp; omega) (kt_copy _ (by omega))) ?_
      rintro _ _ ⟨rfl, rfl⟩
      refine TL.nil ?_
      refine TQ.meetF (I := fun _ => True) (C := fun (_ : Unit) => []) (()) (trivial) trivial (by (repeat first | apply Grow.refl | apply Grow.step | apply Grow.app)) ?_ ?_
      · kernel_rfl
      · simp only [List.cons_append, List.nil_append]
        exact (by rw [hk]; exact ett)
  · rintro ⟨⟩ - F' L' rfl hL'
    simp only [List.cons_append, List.nil_append] at hL'
    subst hL'
    have hkl := keyed_len key
    generalize hkb : keyed key = kb at hkl ⊢
    have hkt := kt_len kb
    refine TC.to ((Ent.nilOwn 5 1).trans (Ent.nilOwn 5 1)) ?_
    refine TC.seq ?_
    refine TC.region ?_
    refine TL.val rfl rfl rfl (Y.assign rfl rfl) ?_
    refine TL.val rfl rfl rfl (Y.assign rfl rfl) ?_
    refine TL.nil ?_
    refine TQ.next ?_
    refine TC.seq ?_
    refine TC.seq ?_
    refine TC.region ?_
    refine TL.val rfl rfl rfl (Y.move rfl rfl) ?_
    refine TL.nil ?_
    refine TQ.next ?_
    refine TC.block ?_
    refine TC.loopF (ι := Nat × (Option Addr × Nat) × (Option Addr × Nat)) [] (fun i => i.1 ≤ 64) (fun i => [(22, some (vN i.1)), (7, some (.slice i.2.1.1 i.1 i.2.1.2)), (8, some (.slice i.2.2.1 i.1 i.2.2.2))]) (fun i => [SA.owns 5 1 (.slice i.2.1.1 i.1 i.2.1.2) i.1 ((rj kb 54 i.1).map v8), SA.owns 5 1 (.slice i.2.2.1 i.1 i.2.2.2) i.1 ((rj kb 92 i.1).map v8)]) (fun i => 64 - i.1) ((0, (none, 0), (none, 0))) (by omega) ⟨rfl, rfl, rfl, trivial⟩ (Pulls.cons pul (Pulls.cons pul Pulls.nil)) ?_
    rintro ⟨j, ⟨ai, ci⟩, ⟨ao, co⟩⟩ hj F' L' rfl hL'
    simp only [List.cons_append, List.nil_append] at hL'
    subst hL'
    dsimp only at hj ⊢
    refine TC.seq ?_
    refine TC.region ?_
    refine TL.val rfl rfl rfl (Y.bin rfl rfl rfl (br_ltN (n := 64))) ?_
    refine TL.nil ?_
    refine TQ.next ?_
    refine TC.seq ?_
    refine TC.cond rfl (fun c1 => ?_) (fun c1 => ?_)
    · try simp only [decide_eq_true_eq, decide_eq_false_iff_not, Bool.not_eq_true', Bool.not_eq_false', Bool.and_eq_true, Bool.or_eq_true, Nat.not_lt, Nat.not_le, beq_iff_eq, bne_iff_ne] at c1
      refine TC.skip ?_
      refine TQ.next ?_
      refine TC.seq ?_
      refine TC.block ?_
      refine TC.seq ?_
      refine TC.region ?_
      refine TL.val rfl rfl rfl (Y.move rfl rfl) ?_
      refine TL.val rfl rfl rfl (Y.assign rfl rfl) ?_
      refine TL.nil ?_
      refine TQ.next ?_
      refine TC.seq ?_
      refine TC.region ?_
      refine TL.val rfl rfl rfl (Y.move rfl rfl) ?_
      refine TL.val rfl rfl rfl (Y.move rfl rfl) ?_
      refine TL.val rfl rfl rfl (Y.indexArr rfl ar95 rfl rfl (by omega) nqq) ?_
      refine TL.val rfl rfl rfl (Y.load rfl sc5 rfl ceo8) ?_
      refine TL.val rfl rfl rfl (Y.bin rfl rfl rfl (br_xor8 (y := 54))) ?_
      refine TL.eff rfl rfl rfl (X.lit rfl el27 rfl rfl rfl (by decide) rfl) ?_
      rintro _ _ ⟨g30, rfl, rfl⟩
      refine TL.eff rfl rfl rfl (X.appendS rfl el27 rfl pul rfl (by first | exact Src.owns Try.underlying27 inn | exact Src.rds Try.underlying27 inn | exact Src.reads (by assumption) Try.underlying27 inn) (by simp only [maxLen]; omega) (by omega)) ?_
      rintro _ _ ⟨a31, c31, rfl, rfl⟩
      refine TL.val rfl rfl rfl (Y.assign rfl rfl) ?_
      refine TL.nil ?_
      refine TQ.next ?_
      refine TC.region ?_
      refine TL.val rfl rfl rfl (Y.move rfl rfl) ?_
      refine TL.val rfl rfl rfl (Y.move rfl rfl) ?_
      refine TL.val rfl rfl rfl (Y.indexArr rfl ar95 rfl rfl (by omega) nqq) ?_
      refine TL.val rfl rfl rfl (Y.load rfl sc5 rfl ceo8) ?_
      refine TL.val rfl rfl rfl (Y.bin rfl rfl rfl (br_xor8 (y := 92))) ?_
      refine TL.eff rfl rfl rfl (X.lit rfl el27 rfl rfl rfl (by decide) rfl) ?_
      rintro _ _ ⟨g37, rfl, rfl⟩
      refine TL.eff rfl rfl rfl (X.appendS rfl el27 rfl pul rfl (by first | exact Src.owns Try.underlying27 inn | exact Src.rds Try.underlying27 inn | exact Src.reads (by assumption) Try.underlying27 inn) (by simp only [maxLen]; omega) (by omega)) ?_
      rintro _ _ ⟨a38, c38, rfl, rfl⟩
      refine TL.val rfl rfl rfl (Y.assign rfl rfl) ?_
      refine TL.nil ?_
      refine TQ.block_normal ?_
      refine TQ.next ?_
      refine TC.region ?_
      refine TL.val rfl rfl rfl (Y.bin rfl rfl rfl (br_addN (n := 1) (by omega))) ?_
      refine TL.val rfl rfl rfl (Y.move rfl rfl) ?_
      refine TL.nil ?_
      rw [rj_s kb 54 j (by omega), rj_s kb 92 j (by omega)]
      refine TQ.loopF ((j + 1, (_, _), (_, _))) (by show j + 1 ≤ 64; omega) (by show 64 - (j + 1) < 64 - j; omega) ⟨rfl, rfl, rfl, trivial⟩ (by (repeat first | apply Grow.refl | apply Grow.step | apply Grow.app)) ?_ ?_ ?_
      · kernel_rfl
      · rfl
      · simp only [List.cons_append, List.nil_append]
        exact ett
    · try simp only [decide_eq_true_eq, decide_eq_false_iff_not, Bool.not_eq_true', Bool.not_eq_false', Bool.and_eq_true, Bool.or_eq_true, Nat.not_lt, Nat.not_le, beq_iff_eq, bne_iff_ne] at c1
      refine TC.exit ?_
      refine TQ.then_exit ?_
      refine TQ.then_exit ?_
      refine TQ.block_exit ?_
      refine TQ.next ?_
      refine TC.seq ?_
      obtain rfl : j = 64 := by omega
      rw [show rj kb 54 64 = row kb 54 from rfl, show rj kb 92 64 = row kb 92 from rfl]
      have hr0 := row_len kb 54
      have hr1 := row_len kb 92
      refine TC.region ?_
      refine TL.val rfl rfl rfl (Y.move rfl rfl) ?_
      refine TL.val rfl rfl rfl (Y.move rfl rfl) ?_
      refine TL.eff rfl rfl rfl (X.appendS rfl el27 rfl pul rfl (by first | exact Src.owns Try.underlying27 inn | exact Src.rds Try.underlying27 inn | exact Src.reads (by assumption) Try.underlying27 inn) (by simp only [maxLen]; omega) (by omega)) ?_
      rintro _ _ ⟨a42, c42, rfl, rfl⟩
      rw [← List.map_append]
      refine TL.eff rfl rfl rfl (X.call rfl Try.func57 (by kernel_rfl) rfl rfl (Fn.pre (refSum_fn (SA.owns 5 1 (.slice a42 _ c42) _ ((row kb 54 ++ msg).map v8)) _ _ _ (row kb 54 ++ msg) Reads.owns (by simp [hr0]) (by omega) _) (Ent.cons pul Ent.refl))) ?_
      rintro _ _ ⟨rfl, rfl⟩
      have hsl := sha_len (row kb 54 ++ msg)
      generalize hH : sha (row kb 54 ++ msg) = h at hsl ⊢
      refine TL.eff rfl rfl rfl (X.alloc rfl zc83) ?_
      rintro _ _ ⟨b10, rfl, rfl⟩
      refine TL.eff0 rfl rfl (by first | exact X.storeAll rfl sz83 szz rfl rfl (by simp [Value.oneCell']) pul szz | exact X.storeAgg rfl sz83 szz rfl rfl (by simp [Value.oneCell']) pul szz (writeM (by ((try simp only [List.length_set, List.length_map, List.length_append, List.length_replicate]); omega)))) ?_
      rintro _ _ rfl
      refine TL.nil ?_
      refine TQ.next ?_
      refine TC.seq ?_
      refine TC.region ?_
      refine TL.val rfl rfl rfl (Y.move rfl rfl) ?_
      refine TL.val rfl rfl rfl (Y.sliceArr rfl Try.underlying83 sz5 rfl) ?_
      refine TL.eff rfl rfl rfl (X.appendS rfl el27 rfl pul rfl (Src.blk (l := h.map v8) Try.underlying27 inn (by simp [hsl]) one8 (fun j u h => by simpa using h)) (by simp only [maxLen]; omega) (by omega)) ?_
      rintro _ _ ⟨a46, c46, rfl, rfl⟩
      rw [← List.map_append]
      refine TL.eff rfl rfl rfl (X.call rfl Try.func57 (by kernel_rfl) rfl rfl (Fn.pre (refSum_fn (SA.owns 5 1 (.slice a46 _ c46) _ ((row kb 92 ++ h).map v8)) _ _ _ (row kb 92 ++ h) Reads.owns (by simp [hr1, hsl]) (by omega) _) (Ent.cons pul Ent.refl))) ?_
      rintro _ _ ⟨rfl, rfl⟩
      have hsl2 := sha_len (row kb 92 ++ h)
      refine TL.eff0 rfl rfl (by first | exact X.storeAll rfl sz83 szz rfl rfl (by simp [Value.oneCell']) pul szz | exact X.storeAgg rfl sz83 szz rfl rfl (by simp [Value.oneCell']) pul szz (writeM (by ((try simp only [List.length_set, List.length_map, List.length_append, List.length_replicate]); omega)))) ?_
      rintro _ _ rfl
      refine TL.nil ?_
      refine TQ.next ?_
      refine TC.ret ?_
      refine TQ.retE (resC rfl ag83 rfl (Cels.full inn) szz) (⟨by rw [mac, hkb, hH], rfl⟩) ?_
      exact ett
end sha
end Go.Proofs.Ytggammbhmoippaa
