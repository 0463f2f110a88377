/- AES: the statement that the stream is the blocks of the counter. -/
import Derived.Test.YtpddnhjpjmbgfaaAesStreamL
namespace Go.Proofs.Ytpddnhjpjmbgfaa
set_option linter.unusedVariables false
set_option linter.unusedSimpArgs false
open Go.RowKit
theorem Ent.cutRds {L : List SA} {sz n cap lo hi : Nat} {a : Option Addr} {cs : List Value} (h1 : lo ≤ hi) (h2 : hi ≤ n) : Ent (SA.rds sz (.slice a n cap) n cs :: L) (SA.rds sz (cutV a cap lo hi sz) (hi - lo) ((cs.drop (lo * sz)).take ((hi - lo) * sz)) :: L) := Ent.imp fun w O R h => by
  refine ⟨O, R, ⟨fun hn x hx => h.1 (by omega) x ?_, (h.2.drop (k := lo) (by omega)).take (k := hi - lo) (by omega)⟩, fun _ h => h, fun _ h => .inr h⟩
  unfold cutV at hx
  split at hx
  · cases a with
    | none => exact hx
    | some b => exact hx
  · cases a with
    | none => exact hx
    | some b => simpa [own, add_block] using hx
theorem Reads.blk8 {b t n : Nat} {l : List UInt8} (hn : l.length = n) (hm : n ≤ maxLen) : Reads (SA.blk b (l.map v8).toArray t) 1 (.slice (some ⟨b, 0, none⟩) n n) n (l.map v8) := fun w O R h =>
  Rd.ofBlk (sz := 1) (l := l.map v8) h.2 (by simp [hn]) one8 (Nat.le_refl _) hm (fun j u hj => by simpa using hj)
namespace aes
namespace FxAesCount
set_option maxRecDepth 100000
theorem ag22 : Program.aggN Try.prog 22 = some 16 := by kernel_rfl
theorem ar22 : Program.arrI Try.prog 22 = some (16, 1) := by kernel_rfl
theorem sc5 : Program.isSc Try.prog 5 = true := by kernel_rfl
theorem sz22 : (Try.prog.info? 22).map (·.size) = some 16 := by kernel_rfl
theorem sz5 : (Try.prog.info? 5).map (·.size) = some 1 := by kernel_rfl
theorem zc22 : Program.zeroC Try.prog 22 = some ((List.replicate 16 (0 : UInt8)).map v8).toArray := by kernel_rfl
end FxAesCount
open FxAesCount
theorem strm_16 (key : List UInt8) (s : St16) (c : Nat) : strm key s (16 * c) = strJ key s c := by
  rw [strm, show (16 * c + 15) / 16 = c by omega]
  exact List.take_of_length_le (by rw [strJ_len]; omega)
theorem strJ_at (key : List UInt8) (s : St16) (j : Nat) : ∀ c, j < c → ((strJ key s c).drop (16 * j)).take 16 = ct key (incN s j)
  | 0, h => by omega
  | c + 1, h => by
    have hl := strJ_len key s c
    have hc : (ct key (incN s c)).length = 16 := tab_len
    rw [strJ]
    by_cases hj : j < c
    · rw [List.drop_append_of_le_length (by omega), List.take_append_of_le_length (by rw [List.length_drop]; omega)]
      exact strJ_at key s j c hj
    · obtain rfl : j = c := by omega
      rw [← hl, List.drop_left, ← hc, List.take_length]
theorem counts_fn (key : List UInt8) (hk : key.length = 16) (s : St16) (m : UInt8) (L : List SA) :
    Fn Try.prog 6 [.agg (key.map v8).toArray, .agg ((tab 16 s).map v8).toArray, v8 m] L (fun v L' => v = .bool true ∧ L' = L) := by
  have hs : (tab 16 s).length = 16 := tab_len
  have hm := m.toNat_lt
  have hsl : slen ((16 * m.toNat : Nat) : Int) = 16 * m.toNat := by
    rw [slen]; split
    · omega
    · omega
  refine Fn.of (N := 56) Try.func6 rfl rfl ?_
  refine TC.seq ?_
  refine TC.region ?_
  refine TL.eff rfl rfl rfl (X.boxA rfl rfl) ?_
  rintro _ _ ⟨b3, rfl, rfl⟩
  refine TL.eff rfl rfl rfl (X.boxA rfl rfl) ?_
  rintro _ _ ⟨b4, rfl, rfl⟩
  refine TL.val rfl rfl rfl (Y.assign rfl rfl) ?_
  refine TL.nil ?_
  refine TQ.next ?_
  refine TC.seq ?_
  refine TC.seq ?_
  refine TC.region ?_
  refine TL.eff rfl rfl rfl (X.call rfl Try.func7 (by kernel_rfl) rfl rfl (awake_fn _)) ?_
  rintro _ _ ⟨rfl, rfl⟩
  refine TL.val rfl rfl rfl (Y.not rfl rfl) ?_
  refine TL.nil ?_
  refine TQ.next ?_
  refine TC.cond_f rfl ?_
  refine TC.skip ?_
  refine TQ.next ?_
  refine TC.seq ?_
  refine TC.region ?_
  refine TL.val rfl rfl rfl (Y.loadAgg rfl ag22 rfl (Cels.full (by with_reducible (repeat first | exact In.here | apply In.there))) (by ((try simp only [List.length_map, List.length_set, List.length_replicate]); omega))) ?_
  refine TL.val rfl rfl rfl (Y.loadAgg rfl ag22 rfl (Cels.full (by with_reducible (repeat first | exact In.here | apply In.there))) (by ((try simp only [List.length_map, List.length_set, List.length_replicate]); omega))) ?_
  refine TL.val rfl rfl rfl (Y.move rfl rfl) ?_
  refine TL.val rfl rfl rfl (Y.conv rfl Try.underlying5 Try.underlying3 rfl (cv_8_N)) ?_
  refine TL.val rfl rfl rfl (Y.bin rfl rfl rfl (br_mulN (m := 16) (by omega))) ?_
  refine TL.eff rfl rfl rfl (X.call rfl Try.func10 (by kernel_rfl) rfl rfl (Stream_fn key hk s ((16 * m.toNat : Nat) : Int) _)) ?_
  rintro _ _ ⟨a18, c18, rfl, rfl⟩
  refine TL.val rfl rfl rfl (Y.assign rfl rfl) ?_
  refine TL.nil ?_
  refine TQ.next ?_
  refine TC.seq ?_
  refine TC.seq ?_
  rw [hsl]
  generalize hc : m.toNat = c at hm
  refine TC.to ((Pull.ent (A := SA.owns 5 1 (.slice a18 (16 * c) c18) (16 * c) ((strm key s (16 * c)).map v8)) (by first | (with_reducible (repeat first | exact Pull.here | apply Pull.there); done) | (repeat first | exact Pull.here | apply Pull.there))).trans Ent.freeze) ?_
  refine TC.know (reads_cap (A := SA.rds 1 (.slice a18 (16 * c) c18) (16 * c) ((strm key s (16 * c)).map v8)) Reads.rds (by with_reducible (repeat first | exact In.here | apply In.there))) ?_
  rintro ⟨hcap, hcm, -, -⟩
  refine TC.region ?_
  refine TL.val rfl rfl rfl (Y.move rfl rfl) ?_
  refine TL.val rfl rfl rfl (Y.len rfl Try.underlying27 rfl) ?_
  refine TL.val rfl rfl rfl (Y.move rfl rfl) ?_
  refine TL.val rfl rfl rfl (Y.conv rfl Try.underlying5 Try.underlying3 rfl (cv_8_N)) ?_
  refine TL.val rfl rfl rfl (Y.bin rfl rfl rfl (br_mulN (m := 16) (by omega))) ?_
  refine TL.val rfl rfl rfl (Y.bin rfl rfl rfl (br_neN)) ?_
  rw [hc, show (!decide (16 * c = 16 * c)) = false by simp]
  refine TL.nil ?_
  refine TQ.next ?_
  refine TC.cond_f rfl ?_
  refine TC.skip ?_
  refine TQ.next ?_
  refine TC.seq ?_
  refine TC.seq ?_
  refine TC.region ?_
  refine TL.val rfl rfl rfl (Y.assign rfl rfl) ?_
  refine TL.nil ?_
  refine TQ.next ?_
  refine TC.block ?_
  refine TC.loopF (ι := Nat) [6] (fun j => j ≤ c) (fun j => [(8, some (vN (16 * j)))]) (fun j => [SA.blk b4 ((tab 16 (incN s j)).map v8).toArray 22]) (fun j => c - j) (0) (by omega) ⟨rfl, trivial⟩ (Pulls.cons (by first | (with_reducible (repeat first | exact Pull.here | apply Pull.there); done) | (repeat first | exact Pull.here | apply Pull.there)) Pulls.nil) ?_
  rintro j hj F' L' rfl hL'
  simp only [List.cons_append, List.nil_append] at hL'
  subst hL'
  generalize hS : incN s j = S
  have hsl2 : (tab 16 S).length = 16 := tab_len
  have hcl : (ct key S).length = 16 := tab_len
  refine TC.seq ?_
  refine TC.seq ?_
  refine TC.region ?_
  refine TL.val rfl rfl rfl (Y.move rfl rfl) ?_
  refine TL.val rfl rfl rfl (Y.move rfl rfl) ?_
  refine TL.val rfl rfl rfl (Y.len rfl Try.underlying27 rfl) ?_
  refine TL.val rfl rfl rfl (Y.bin rfl rfl rfl (br_ltN)) ?_
  refine TL.nil ?_
  refine TQ.next ?_
  refine TC.cond rfl (fun c2 => ?_) (fun c2 => ?_)
  · try simp only [decide_eq_true_eq, decide_eq_false_iff_not, Bool.not_eq_true', Bool.not_eq_false', Bool.and_eq_true, Bool.or_eq_true, Nat.not_lt, Nat.not_le, beq_iff_eq, bne_iff_ne] at c2
    refine TC.skip ?_
    refine TQ.next ?_
    refine TC.seq ?_
    refine TC.block ?_
    refine TC.seq ?_
    refine TC.region ?_
    refine TL.val rfl rfl rfl (Y.loadAgg rfl ag22 rfl (Cels.full (by with_reducible (repeat first | exact In.here | apply In.there))) (by ((try simp only [List.length_map, List.length_set, List.length_replicate]); omega))) ?_
    refine TL.val rfl rfl rfl (Y.loadAgg rfl ag22 rfl (Cels.full (by with_reducible (repeat first | exact In.here | apply In.there))) (by ((try simp only [List.length_map, List.length_set, List.length_replicate]); omega))) ?_
    refine TL.eff rfl rfl rfl (X.call rfl Try.func8 (by kernel_rfl) rfl rfl (Block_fn key hk S _)) ?_
    rintro _ _ ⟨rfl, rfl⟩
    refine TL.eff rfl rfl rfl (X.alloc rfl zc22) ?_
    rintro _ _ ⟨b9, rfl, rfl⟩
    refine TL.eff0 rfl rfl (by first | exact X.storeAll rfl sz22 (by ((try simp only [List.size_toArray, List.length_set, List.length_map, List.length_append, List.length_replicate, List.length_cons, List.length_nil]); (first | done | omega | (simp [*]; done)))) rfl rfl (by simp [Value.oneCell']) (by first | (with_reducible (repeat first | exact Pull.here | apply Pull.there); done) | (repeat first | exact Pull.here | apply Pull.there)) (by ((try simp only [List.size_toArray, List.length_set, List.length_map, List.length_append, List.length_replicate, List.length_cons, List.length_nil]); (first | done | omega | (simp [*]; done)))) | exact X.storeAgg rfl sz22 (by ((try simp only [List.size_toArray, List.length_set, List.length_map, List.length_append, List.length_replicate, List.length_cons, List.length_nil]); (first | done | omega | (simp [*]; done)))) rfl rfl (by simp [Value.oneCell']) (by first | (with_reducible (repeat first | exact Pull.here | apply Pull.there); done) | (repeat first | exact Pull.here | apply Pull.there)) (by ((try simp only [List.size_toArray, List.length_set, List.length_map, List.length_append, List.length_replicate, List.length_cons, List.length_nil]); (first | done | omega | (simp [*]; done)))) (writeM (by ((try simp only [List.length_set, List.length_map, List.length_append, List.length_replicate]); omega)))) ?_
    rintro _ _ rfl
    refine TL.nil ?_
    refine TQ.next ?_
    refine TC.seq ?_
    refine TC.seq ?_
    refine TC.to ((Pull.ent (A := SA.rds 1 (.slice a18 (16 * c) c18) (16 * c) ((strm key s (16 * c)).map v8)) (by first | (with_reducible (repeat first | exact Pull.here | apply Pull.there); done) | (repeat first | exact Pull.here | apply Pull.there))).trans ((Ent.dup Dup.rds).trans (Ent.cutRds (lo := 16 * j) (hi := 16 * j + 16) (by omega) (by omega)))) ?_
    rw [show (((strm key s (16 * c)).map v8).drop (16 * j * 1)).take ((16 * j + 16 - 16 * j) * 1) = (ct key S).map v8 by rw [Nat.mul_one, Nat.mul_one, Nat.add_sub_cancel_left, ← List.map_drop, ← List.map_take, strm_16, strJ_at key s j c (by omega), hS]]
    refine TC.draws 9 _ (by kernel_rfl) (fun _ h => h) ?_
    refine TA.take 0 rfl rfl rfl rfl (by kernel_rfl) (by kernel_rfl) (by kernel_rfl) rfl (by kernel_rfl) (by kernel_rfl) (fun _ _ _ h => h) (Y.move rfl rfl) ?_
    refine TA.take 1 rfl rfl rfl rfl (by kernel_rfl) (by kernel_rfl) (by kernel_rfl) rfl (by kernel_rfl) (by kernel_rfl) (fun _ _ _ h => h) (Y.move rfl rfl) ?_
    refine TA.take 2 rfl rfl rfl rfl (by kernel_rfl) (by kernel_rfl) (by kernel_rfl) rfl (by kernel_rfl) (by kernel_rfl) (fun _ _ _ h => h) (Y.move rfl rfl) ?_
    refine TA.take 3 rfl rfl rfl rfl (by kernel_rfl) (by kernel_rfl) (by kernel_rfl) rfl (by kernel_rfl) (by kernel_rfl) (fun _ _ _ h => h) (Y.bin rfl rfl rfl (br_addN (n := 16) (by omega))) ?_
    refine TA.take 4 rfl rfl rfl rfl (by kernel_rfl) (by kernel_rfl) (by kernel_rfl) rfl (by kernel_rfl) (by kernel_rfl) (fun _ _ _ h => h) (Y.sliceLH (sz := 1) rfl Try.underlying27 (by kernel_rfl) rfl rfl rfl (by omega) (by omega)) ?_
    refine TA.take 5 rfl rfl rfl rfl (by kernel_rfl) (by kernel_rfl) (by kernel_rfl) rfl (by kernel_rfl) (by kernel_rfl) (fun _ _ _ h => h) (Y.str (l := ct key S) rfl Try.underlying27 Try.underlying9 Try.underlying5 rfl (Reads.rds (v := cutV a18 c18 (16 * j) (16 * j + 16) 1)) (by with_reducible (repeat first | exact In.here | apply In.there))) ?_
    refine TA.take 6 rfl rfl rfl rfl (by kernel_rfl) (by kernel_rfl) (by kernel_rfl) rfl (by kernel_rfl) (by kernel_rfl) (fun _ _ _ h => h) (Y.sliceArr rfl Try.underlying22 sz5 rfl) ?_
    refine TA.take 7 rfl rfl rfl rfl (by kernel_rfl) (by kernel_rfl) (by kernel_rfl) rfl (by kernel_rfl) (by kernel_rfl) (fun _ _ _ h => h) (Y.str (l := ct key S) rfl Try.underlying27 Try.underlying9 Try.underlying5 rfl (Reads.blk8 (b := b9) (t := 22) hcl (by decide)) (by with_reducible (repeat first | exact In.here | apply In.there))) ?_
    refine TA.take 8 rfl rfl rfl rfl (by kernel_rfl) (by kernel_rfl) (by kernel_rfl) rfl (by kernel_rfl) (by kernel_rfl) (fun _ _ _ h => h) (Y.neStr rfl rfl rfl) ?_
    rw [show (!decide (ct key S = ct key S)) = false by simp]
    refine TA.done (by kernel_rfl) ?_
    refine TQ.next ?_
    refine TC.cond_f rfl ?_
    refine TC.skip ?_
    refine TQ.next ?_
    refine TC.seq ?_
    refine TC.region ?_
    refine TL.val rfl rfl rfl (Y.assign rfl rfl) ?_
    refine TL.nil ?_
    refine TQ.next ?_
    refine TC.block ?_
    refine TC.loopF (ι := Nat × St16) [] (fun i => i.1 ≤ 16 ∧ incF i.2 i.1 = inc S) (fun i => [(10, some (.int .i64 ((i.1 : Int) - 1)))]) (fun i => [SA.blk b4 ((tab 16 i.2).map v8).toArray 22]) (fun i => i.1) ((16, S)) (⟨Nat.le_refl _, rfl⟩) ⟨rfl, trivial⟩ (Pulls.cons (by first | (with_reducible (repeat first | exact Pull.here | apply Pull.there); done) | (repeat first | exact Pull.here | apply Pull.there)) Pulls.nil) ?_
    rintro ⟨k, z⟩ ⟨hk16, hinc⟩ F' L' rfl hL'
    simp only [List.cons_append, List.nil_append] at hL'
    subst hL'
    simp only at hk16 hinc ⊢
    have hcc : (tab 16 z).length = 16 := tab_len
    refine TC.seq ?_
    refine TC.seq ?_
    refine TC.region ?_
    refine TL.val rfl rfl rfl (Y.move rfl rfl) ?_
    refine TL.val rfl rfl rfl (Y.bin rfl rfl rfl (br_geI (n := 0))) ?_
    refine TL.nil ?_
    refine TQ.next ?_
    refine TC.cond rfl (fun c4 => ?_) (fun c4 => ?_)
    · try simp only [decide_eq_true_eq, decide_eq_false_iff_not, Bool.not_eq_true', Bool.not_eq_false', Bool.and_eq_true, Bool.or_eq_true, Nat.not_lt, Nat.not_le, beq_iff_eq, bne_iff_ne] at c4
      obtain ⟨q, rfl⟩ : ∃ q, k = q + 1 := ⟨k - 1, by omega⟩
      rw [show (((q + 1 : Nat) : Int) - 1) = (q : Int) by omega]
      refine TC.skip ?_
      refine TQ.next ?_
      refine TC.seq ?_
      refine TC.block ?_
      refine TC.seq ?_
      refine TC.region ?_
      refine TL.val rfl rfl rfl (Y.move rfl rfl) ?_
      refine TL.val rfl rfl rfl (Y.indexArr rfl ar22 rfl rfl (by omega) (by ((try simp only [Nat.zero_add, Nat.add_zero, Nat.mul_one, Nat.one_mul, Nat.mul_zero, Nat.zero_mul]) <;> rfl))) ?_
      refine TL.val rfl rfl rfl (Y.load rfl sc5 rfl (by first | exact Cel.blk (by with_reducible (repeat first | exact In.here | apply In.there)) (by first | exact getM (d := (0 : UInt8)) (by ((try simp only [List.length_set, List.length_map, List.length_append, List.length_replicate, List.size_toArray]); omega)) | rfl) | exact Cel.rblk (by with_reducible (repeat first | exact In.here | apply In.there)) (by first | exact getM (d := (0 : UInt8)) (by ((try simp only [List.length_set, List.length_map, List.length_append, List.length_replicate, List.size_toArray]); omega)) | rfl) | exact Cel.rds (by with_reducible (repeat first | exact In.here | apply In.there)) (getML (d := (0 : UInt8)) (by ((try simp only [List.length_set, List.length_map, List.length_append, List.length_replicate, List.size_toArray]); omega))) | exact Cel.owns (by with_reducible (repeat first | exact In.here | apply In.there)) (getML (d := (0 : UInt8)) (by ((try simp only [List.length_set, List.length_map, List.length_append, List.length_replicate, List.size_toArray]); omega))) | exact Cel.reads (by assumption) (by with_reducible (repeat first | exact In.here | apply In.there)) (getML (d := (0 : UInt8)) (by ((try simp only [List.length_set, List.length_map, List.length_append, List.length_replicate, List.size_toArray]); omega))))) ?_
      refine TL.val rfl rfl rfl (Y.bin rfl rfl rfl (br_add8 (y := 1))) ?_
      refine TL.val rfl rfl rfl (Y.indexArr rfl ar22 rfl rfl (by omega) (by ((try simp only [Nat.zero_add, Nat.add_zero, Nat.mul_one, Nat.one_mul, Nat.mul_zero, Nat.zero_mul]) <;> rfl))) ?_
      refine TL.eff0 rfl rfl (by first | exact X.store rfl sz5 rfl rfl rfl (by first | (with_reducible (repeat first | exact Pull.here | apply Pull.there); done) | (repeat first | exact Pull.here | apply Pull.there)) (by ((try simp only [List.length_set, List.length_map, List.length_append, List.length_replicate, List.size_toArray]); omega)) (by first | exact setM | rfl) | exact X.storeOwn rfl sz5 rfl (Nat.zero_add _).symm rfl rfl (by first | (with_reducible (repeat first | exact Pull.here | apply Pull.there); done) | (repeat first | exact Pull.here | apply Pull.there)) (by ((try simp only [List.length_set, List.length_map, List.length_append, List.length_replicate, List.size_toArray]); omega)) (by first | exact setML | rfl)) ?_
      rintro _ _ rfl
      refine TL.nil ?_
      rw [tab_getD (show q < 16 by omega), tab_setS]
      have hcs : (tab 16 (setS z q (z q + 1))).length = 16 := tab_len
      refine TQ.next ?_
      refine TC.seq ?_
      refine TC.region ?_
      refine TL.val rfl rfl rfl (Y.move rfl rfl) ?_
      refine TL.val rfl rfl rfl (Y.indexArr rfl ar22 rfl rfl (by omega) (by ((try simp only [Nat.zero_add, Nat.add_zero, Nat.mul_one, Nat.one_mul, Nat.mul_zero, Nat.zero_mul]) <;> rfl))) ?_
      refine TL.val rfl rfl rfl (Y.load rfl sc5 rfl (by first | exact Cel.blk (by with_reducible (repeat first | exact In.here | apply In.there)) (by first | exact getM (d := (0 : UInt8)) (by ((try simp only [List.length_set, List.length_map, List.length_append, List.length_replicate, List.size_toArray]); omega)) | rfl) | exact Cel.rblk (by with_reducible (repeat first | exact In.here | apply In.there)) (by first | exact getM (d := (0 : UInt8)) (by ((try simp only [List.length_set, List.length_map, List.length_append, List.length_replicate, List.size_toArray]); omega)) | rfl) | exact Cel.rds (by with_reducible (repeat first | exact In.here | apply In.there)) (getML (d := (0 : UInt8)) (by ((try simp only [List.length_set, List.length_map, List.length_append, List.length_replicate, List.size_toArray]); omega))) | exact Cel.owns (by with_reducible (repeat first | exact In.here | apply In.there)) (getML (d := (0 : UInt8)) (by ((try simp only [List.length_set, List.length_map, List.length_append, List.length_replicate, List.size_toArray]); omega))) | exact Cel.reads (by assumption) (by with_reducible (repeat first | exact In.here | apply In.there)) (getML (d := (0 : UInt8)) (by ((try simp only [List.length_set, List.length_map, List.length_append, List.length_replicate, List.size_toArray]); omega))))) ?_
      rw [tab_getD (show q < 16 by omega), setS_at]
      refine TL.val rfl rfl rfl (Y.bin rfl rfl rfl (br_ne8 (y := 0))) ?_
      refine TL.nil ?_
      refine TQ.next ?_
      refine TC.cond rfl (fun c5 => ?_) (fun c5 => ?_)
      · skip
        rw [show setS z q (z q + 1) = inc S by rw [← hinc, incF, if_pos c5]]
        refine TC.exit ?_
        refine TQ.block_out rfl ?_
        refine TQ.then_exit ?_
        refine TQ.then_exit ?_
        refine TQ.block_exit ?_
        refine TQ.block_normal ?_
        refine TQ.next ?_
        refine TC.region ?_
        refine TL.val rfl rfl rfl (Y.move rfl rfl) ?_
        refine TL.val rfl rfl rfl (Y.bin rfl rfl rfl (br_addN (n := 16) (by omega))) ?_
        refine TL.val rfl rfl rfl (Y.assign rfl rfl) ?_
        refine TL.nil ?_
        rw [show 16 * j + 16 = 16 * (j + 1) by omega]
        refine TQ.loopF (j + 1) (by omega) (by omega) ⟨rfl, trivial⟩ (by (repeat first | exact Grow.refl | apply Grow.step | apply Grow.app)) ?_ ?_ ?_
        · kernel_rfl
        · rfl
        · simp only [List.cons_append, List.nil_append]
          exact (by rw [show incN s (j + 1) = inc S by rw [incN, hS]]; exact (by (repeat first | (with_reducible exact Ent.refl) | (with_reducible exact Ent.nil) | refine Ent.cons (by first | (with_reducible (repeat first | exact Pull.here | apply Pull.there); done) | (repeat first | exact Pull.here | apply Pull.there)) ?_ | refine Ent.skip ?_)))
      · skip
        refine TC.skip ?_
        refine TQ.block_normal ?_
        refine TQ.next ?_
        refine TC.region ?_
        refine TL.val rfl rfl rfl (Y.move rfl rfl) ?_
        refine TL.val rfl rfl rfl (Y.bin rfl rfl rfl (br_subI (n := 1) (by omega) (by omega))) ?_
        refine TL.val rfl rfl rfl (Y.assign rfl rfl) ?_
        refine TL.nil ?_
        refine TQ.loopF ((q, setS z q (z q + 1))) (⟨by omega, by rw [← hinc, incF, if_neg (by rw [show (z q + 1 != 0) = false from c5]; decide)]⟩) (by simp only; omega) ⟨rfl, trivial⟩ (by (repeat first | exact Grow.refl | apply Grow.step | apply Grow.app)) ?_ ?_ ?_
        · kernel_rfl
        · rfl
        · simp only [List.cons_append, List.nil_append]
          exact (by (repeat first | (with_reducible exact Ent.refl) | (with_reducible exact Ent.nil) | refine Ent.cons (by first | (with_reducible (repeat first | exact Pull.here | apply Pull.there); done) | (repeat first | exact Pull.here | apply Pull.there)) ?_ | refine Ent.skip ?_))
    · try simp only [decide_eq_true_eq, decide_eq_false_iff_not, Bool.not_eq_true', Bool.not_eq_false', Bool.and_eq_true, Bool.or_eq_true, Nat.not_lt, Nat.not_le, beq_iff_eq, bne_iff_ne] at c4
      obtain rfl : k = 0 := by omega
      obtain rfl : z = inc S := hinc
      refine TC.exit ?_
      refine TQ.then_exit ?_
      refine TQ.then_exit ?_
      refine TQ.block_exit ?_
      refine TQ.block_normal ?_
      refine TQ.next ?_
      refine TC.region ?_
      refine TL.val rfl rfl rfl (Y.move rfl rfl) ?_
      refine TL.val rfl rfl rfl (Y.bin rfl rfl rfl (br_addN (n := 16) (by omega))) ?_
      refine TL.val rfl rfl rfl (Y.assign rfl rfl) ?_
      refine TL.nil ?_
      rw [show 16 * j + 16 = 16 * (j + 1) by omega]
      refine TQ.loopF (j + 1) (by omega) (by omega) ⟨rfl, trivial⟩ (by (repeat first | exact Grow.refl | apply Grow.step | apply Grow.app)) ?_ ?_ ?_
      · kernel_rfl
      · rfl
      · simp only [List.cons_append, List.nil_append]
        exact (by rw [show incN s (j + 1) = inc S by rw [incN, hS]]; exact (by (repeat first | (with_reducible exact Ent.refl) | (with_reducible exact Ent.nil) | refine Ent.cons (by first | (with_reducible (repeat first | exact Pull.here | apply Pull.there); done) | (repeat first | exact Pull.here | apply Pull.there)) ?_ | refine Ent.skip ?_)))
  · try simp only [decide_eq_true_eq, decide_eq_false_iff_not, Bool.not_eq_true', Bool.not_eq_false', Bool.and_eq_true, Bool.or_eq_true, Nat.not_lt, Nat.not_le, beq_iff_eq, bne_iff_ne] at c2
    refine TC.exit ?_
    refine TQ.then_exit ?_
    refine TQ.then_exit ?_
    refine TQ.block_exit ?_
    refine TQ.next ?_
    refine TC.seq ?_
    refine TC.region ?_
    refine TL.val rfl rfl rfl (Y.assign rfl rfl) ?_
    refine TL.nil ?_
    refine TQ.next ?_
    refine TC.ret ?_
    refine TQ.retE (res1 rfl rfl) (⟨rfl, rfl⟩) ?_
    exact (by (repeat first | (with_reducible exact Ent.refl) | (with_reducible exact Ent.nil) | refine Ent.cons (by first | (with_reducible (repeat first | exact Pull.here | apply Pull.there); done) | (repeat first | exact Pull.here | apply Pull.there)) ?_ | refine Ent.skip ?_))
end aes
end Go.Proofs.Ytpddnhjpjmbgfaa
