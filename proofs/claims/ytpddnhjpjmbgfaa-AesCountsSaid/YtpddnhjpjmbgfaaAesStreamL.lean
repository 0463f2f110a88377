/- AES: the statement that both streams agree. -/
import Derived.Test.YtpddnhjpjmbgfaaAesStreamR
namespace Go.Proofs.Ytpddnhjpjmbgfaa
set_option linter.unusedVariables false
set_option linter.unusedSimpArgs false
open Go.RowKit
namespace aes
namespace FxAesStreamL
set_option maxRecDepth 100000
theorem ag22 : Program.aggN Try.prog 22 = some 16 := by kernel_rfl
end FxAesStreamL
open FxAesStreamL
def slen (m : Int) : Nat := if 1 ≤ m ∧ m ≤ 65536 then m.toNat else 0
theorem strm_0 (key : List UInt8) (s : St16) : strm key s 0 = [] := List.take_zero
theorem Stream_fn (key : List UInt8) (hk : key.length = 16) (s : St16) (m : Int) (L : List SA) :
    Fn Try.prog 10 [.agg (key.map v8).toArray, .agg ((tab 16 s).map v8).toArray, .int .i64 m] L (fun v L' => ∃ a cap, v = .slice a (slen m) cap ∧ L' = SA.owns 5 1 (.slice a (slen m) cap) (slen m) ((strm key s (slen m)).map v8) :: L) := by
  by_cases h1 : m < 1
  · rw [show slen m = 0 from if_neg (by omega), strm_0]
    exact (Stream_lo _ _ m h1 L).mono fun v L' ⟨e1, e2⟩ => ⟨SA.owns 5 1 (.slice none 0 0) 0 [] :: L, e2 ▸ Ent.nilOwn _ _, none, 0, e1, rfl⟩
  by_cases h2 : 65536 < m
  · rw [show slen m = 0 from if_neg (by omega), strm_0]
    exact (Stream_hi _ _ m h2 L).mono fun v L' ⟨e1, e2⟩ => ⟨SA.owns 5 1 (.slice none 0 0) 0 [] :: L, e2 ▸ Ent.nilOwn _ _, none, 0, e1, rfl⟩
  obtain ⟨n, rfl⟩ : ∃ n : Nat, m = n := ⟨m.toNat, by omega⟩
  rw [show slen (n : Int) = n by rw [slen, if_pos (by omega)]; rfl]
  exact (Stream_ok key hk s n (by omega) (by omega) L).mono fun v L' ⟨a, e1, e2⟩ => ⟨L', Ent.refl, a, n, e1, e2⟩
theorem refStream_fn (key : List UInt8) (hk : key.length = 16) (s : St16) (m : Int) (L : List SA) :
    Fn Try.prog 11 [.agg (key.map v8).toArray, .agg ((tab 16 s).map v8).toArray, .int .i64 m] L (fun v L' => ∃ a cap, v = .slice a (slen m) cap ∧ L' = SA.owns 5 1 (.slice a (slen m) cap) (slen m) ((strm key s (slen m)).map v8) :: L) := by
  by_cases h1 : m < 1
  · rw [show slen m = 0 from if_neg (by omega), strm_0]
    exact (refStream_lo _ _ m h1 L).mono fun v L' ⟨e1, e2⟩ => ⟨SA.owns 5 1 (.slice none 0 0) 0 [] :: L, e2 ▸ Ent.nilOwn _ _, none, 0, e1, rfl⟩
  by_cases h2 : 65536 < m
  · rw [show slen m = 0 from if_neg (by omega), strm_0]
    exact (refStream_hi _ _ m h2 L).mono fun v L' ⟨e1, e2⟩ => ⟨SA.owns 5 1 (.slice none 0 0) 0 [] :: L, e2 ▸ Ent.nilOwn _ _, none, 0, e1, rfl⟩
  obtain ⟨n, rfl⟩ : ∃ n : Nat, m = n := ⟨m.toNat, by omega⟩
  rw [show slen (n : Int) = n by rw [slen, if_pos (by omega)]; rfl]
  exact (refStream_ok key hk s n (by omega) (by omega) L).mono fun v L' ⟨a, cap, e1, e2⟩ => ⟨L', Ent.refl, a, cap, e1, e2⟩
theorem streams_lo (key : List UInt8) (hk : key.length = 16) (s : St16) (m : Int) (hm : m ≤ 2000) (L : List SA) :
    Fn Try.prog 5 [.agg (key.map v8).toArray, .agg ((tab 16 s).map v8).toArray, .int .i64 m] L (fun v L' => v = .bool true ∧ L' = L) := by
  have hs : (tab 16 s).length = 16 := tab_len
  refine Fn.of (N := 28) Try.func5 rfl rfl ?_
  refine TC.seq ?_
  refine TC.region ?_
  refine TL.eff rfl rfl rfl (X.boxA rfl rfl) ?_
  rintro _ _ ⟨b3, rfl, rfl⟩
  refine TL.eff rfl rfl rfl (X.boxA rfl rfl) ?_
  rintro _ _ ⟨b4, rfl, rfl⟩
  refine TL.val rfl rfl rfl (Y.assign rfl rfl) ?_
  refine TL.nil ?_
  refine TQ.next ?_
  refine TC.seq ?_
  refine TC.seq ?_
  refine TC.region ?_
  refine TL.eff rfl rfl rfl (X.call rfl Try.func7 (by kernel_rfl) rfl rfl (awake_fn _)) ?_
  rintro _ _ ⟨rfl, rfl⟩
  refine TL.val rfl rfl rfl (Y.not rfl rfl) ?_
  refine TL.nil ?_
  refine TQ.next ?_
  refine TC.cond_f rfl ?_
  refine TC.skip ?_
  refine TQ.next ?_
  refine TC.seq ?_
  refine TC.seq ?_
  refine TC.region ?_
  refine TL.val rfl rfl rfl (Y.move rfl rfl) ?_
  refine TL.val rfl rfl rfl (Y.bin rfl rfl rfl (br_gtI (n := 2000))) ?_
  rw [show decide (2000 < m) = false from decide_eq_false (by omega)]
  refine TL.val rfl rfl rfl (Y.move rfl rfl) ?_
  refine TL.not rfl rfl rfl ?_
  refine TL.not rfl rfl rfl ?_
  refine TL.val rfl rfl rfl (Y.pick_f rfl rfl rfl) ?_
  refine TL.nil ?_
  refine TQ.next ?_
  refine TC.cond_f rfl ?_
  refine TC.skip ?_
  refine TQ.next ?_
  refine TC.seq ?_
  refine TC.draws 12 _ (by kernel_rfl) (fun _ h => h) ?_
  refine TA.take 0 rfl rfl rfl rfl (by kernel_rfl) (by kernel_rfl) (by kernel_rfl) rfl (by kernel_rfl) (by kernel_rfl) (fun _ _ _ h => h) (Y.loadAgg rfl ag22 rfl (Cels.full (by with_reducible (repeat first | exact In.here | apply In.there))) (by ((try simp only [List.length_map, List.length_set, List.length_replicate]); omega))) ?_
  refine TA.take 1 rfl rfl rfl rfl (by kernel_rfl) (by kernel_rfl) (by kernel_rfl) rfl (by kernel_rfl) (by kernel_rfl) (fun _ _ _ h => h) (Y.loadAgg rfl ag22 rfl (Cels.full (by with_reducible (repeat first | exact In.here | apply In.there))) (by ((try simp only [List.length_map, List.length_set, List.length_replicate]); omega))) ?_
  refine TA.take 2 rfl rfl rfl rfl (by kernel_rfl) (by kernel_rfl) (by kernel_rfl) rfl (by kernel_rfl) (by kernel_rfl) (fun _ _ _ h => h) (Y.move rfl rfl) ?_
  refine TA.take 5 rfl rfl rfl rfl (by kernel_rfl) (by kernel_rfl) (by kernel_rfl) rfl (by kernel_rfl) (by kernel_rfl) (fun _ _ _ h => h) (Y.loadAgg rfl ag22 rfl (Cels.full (by with_reducible (repeat first | exact In.here | apply In.there))) (by ((try simp only [List.length_map, List.length_set, List.length_replicate]); omega))) ?_
  refine TA.take 6 rfl rfl rfl rfl (by kernel_rfl) (by kernel_rfl) (by kernel_rfl) rfl (by kernel_rfl) (by kernel_rfl) (fun _ _ _ h => h) (Y.loadAgg rfl ag22 rfl (Cels.full (by with_reducible (repeat first | exact In.here | apply In.there))) (by ((try simp only [List.length_map, List.length_set, List.length_replicate]); omega))) ?_
  refine TA.take 7 rfl rfl rfl rfl (by kernel_rfl) (by kernel_rfl) (by kernel_rfl) rfl (by kernel_rfl) (by kernel_rfl) (fun _ _ _ h => h) (Y.move rfl rfl) ?_
  refine TA.one 3 (by kernel_rfl) rfl rfl rfl rfl (X.call rfl Try.func10 (by kernel_rfl) rfl rfl (Stream_fn key hk s m _)) ?_
  rintro _ _ ⟨a20, c20, rfl, rfl⟩
  refine ⟨(Or.inr (fun w h A hA => h A (by with_reducible (first | assumption | (repeat first | exact In.there hA | apply In.there))))), ?_⟩
  refine TA.more (A := SA.owns 5 1 (.slice a20 (slen m) c20) (slen m) ((strm key s (slen m)).map v8)) (by with_reducible (repeat first | exact In.here | apply In.there)) ?_
  refine TA.take 4 rfl rfl rfl rfl (by kernel_rfl) (by kernel_rfl) (by kernel_rfl) rfl (by kernel_rfl) (by kernel_rfl) (fun _ _ _ h => h) (Y.str rfl Try.underlying27 Try.underlying9 Try.underlying5 rfl Reads.owns (by with_reducible (repeat first | exact In.here | apply In.there))) ?_
  refine TA.one 8 (by kernel_rfl) rfl rfl rfl rfl (X.call rfl Try.func11 (by kernel_rfl) rfl rfl (refStream_fn key hk s m _)) ?_
  rintro _ _ ⟨a25, c25, rfl, rfl⟩
  refine ⟨(Or.inr (fun w h A hA => h A (by with_reducible (first | assumption | (repeat first | exact In.there hA | apply In.there))))), ?_⟩
  refine TA.more (A := SA.owns 5 1 (.slice a25 (slen m) c25) (slen m) ((strm key s (slen m)).map v8)) (by with_reducible (repeat first | exact In.here | apply In.there)) ?_
  refine TA.take 9 rfl rfl rfl rfl (by kernel_rfl) (by kernel_rfl) (by kernel_rfl) rfl (by kernel_rfl) (by kernel_rfl) (fun _ _ _ h => h) (Y.str rfl Try.underlying27 Try.underlying9 Try.underlying5 rfl Reads.owns (by with_reducible (repeat first | exact In.here | apply In.there))) ?_
  refine TA.take 10 rfl rfl rfl rfl (by kernel_rfl) (by kernel_rfl) (by kernel_rfl) rfl (by kernel_rfl) (by kernel_rfl) (fun _ _ _ h => h) (Y.eqStr rfl rfl rfl) ?_
  rw [show decide (strm key s (slen (m)) = strm key s (slen (m))) = true from decide_eq_true rfl]
  refine TA.take 11 rfl rfl rfl rfl (by kernel_rfl) (by kernel_rfl) (by kernel_rfl) rfl (by kernel_rfl) (by kernel_rfl) (fun _ _ _ h => h) (Y.assign rfl rfl) ?_
  refine TA.done (by kernel_rfl) ?_
  refine TQ.next ?_
  refine TC.ret ?_
  refine TQ.retE (res1 rfl rfl) (⟨rfl, rfl⟩) ?_
  exact (by (repeat first | (with_reducible exact Ent.refl) | (with_reducible exact Ent.nil) | refine Ent.cons (by first | (with_reducible (repeat first | exact Pull.here | apply Pull.there); done) | (repeat first | exact Pull.here | apply Pull.there)) ?_ | refine Ent.skip ?_))
theorem streams_hi (key : List UInt8) (hk : key.length = 16) (s : St16) (m : Int) (hm : 65536 < m) (L : List SA) :
    Fn Try.prog 5 [.agg (key.map v8).toArray, .agg ((tab 16 s).map v8).toArray, .int .i64 m] L (fun v L' => v = .bool true ∧ L' = L) := by
  have hs : (tab 16 s).length = 16 := tab_len
  refine Fn.of (N := 28) Try.func5 rfl rfl ?_
  refine TC.seq ?_
  refine TC.region ?_
  refine TL.eff rfl rfl rfl (X.boxA rfl rfl) ?_
  rintro _ _ ⟨b3, rfl, rfl⟩
  refine TL.eff rfl rfl rfl (X.boxA rfl rfl) ?_
  rintro _ _ ⟨b4, rfl, rfl⟩
  refine TL.val rfl rfl rfl (Y.assign rfl rfl) ?_
  refine TL.nil ?_
  refine TQ.next ?_
  refine TC.seq ?_
  refine TC.seq ?_
  refine TC.region ?_
  refine TL.eff rfl rfl rfl (X.call rfl Try.func7 (by kernel_rfl) rfl rfl (awake_fn _)) ?_
  rintro _ _ ⟨rfl, rfl⟩
  refine TL.val rfl rfl rfl (Y.not rfl rfl) ?_
  refine TL.nil ?_
  refine TQ.next ?_
  refine TC.cond_f rfl ?_
  refine TC.skip ?_
  refine TQ.next ?_
  refine TC.seq ?_
  refine TC.seq ?_
  refine TC.region ?_
  refine TL.val rfl rfl rfl (Y.move rfl rfl) ?_
  refine TL.val rfl rfl rfl (Y.bin rfl rfl rfl (br_gtI (n := 2000))) ?_
  rw [show decide (2000 < m) = true from decide_eq_true (by omega)]
  refine TL.val rfl rfl rfl (Y.move rfl rfl) ?_
  refine TL.valG rfl rfl rfl (Y.move rfl rfl) ?_
  refine TL.valG rfl rfl rfl (Y.bin rfl rfl rfl (br_leI (n := 65536))) ?_
  rw [show decide (m ≤ 65536) = false from decide_eq_false (by omega)]
  refine TL.val rfl rfl rfl (Y.pick_t rfl rfl rfl) ?_
  refine TL.nil ?_
  refine TQ.next ?_
  refine TC.cond_f rfl ?_
  refine TC.skip ?_
  refine TQ.next ?_
  refine TC.seq ?_
  refine TC.draws 12 _ (by kernel_rfl) (fun _ h => h) ?_
  refine TA.take 0 rfl rfl rfl rfl (by kernel_rfl) (by kernel_rfl) (by kernel_rfl) rfl (by kernel_rfl) (by kernel_rfl) (fun _ _ _ h => h) (Y.loadAgg rfl ag22 rfl (Cels.full (by with_reducible (repeat first | exact In.here | apply In.there))) (by ((try simp only [List.length_map, List.length_set, List.length_replicate]); omega))) ?_
  refine TA.take 1 rfl rfl rfl rfl (by kernel_rfl) (by kernel_rfl) (by kernel_rfl) rfl (by kernel_rfl) (by kernel_rfl) (fun _ _ _ h => h) (Y.loadAgg rfl ag22 rfl (Cels.full (by with_reducible (repeat first | exact In.here | apply In.there))) (by ((try simp only [List.length_map, List.length_set, List.length_replicate]); omega))) ?_
  refine TA.take 2 rfl rfl rfl rfl (by kernel_rfl) (by kernel_rfl) (by kernel_rfl) rfl (by kernel_rfl) (by kernel_rfl) (fun _ _ _ h => h) (Y.move rfl rfl) ?_
  refine TA.take 5 rfl rfl rfl rfl (by kernel_rfl) (by kernel_rfl) (by kernel_rfl) rfl (by kernel_rfl) (by kernel_rfl) (fun _ _ _ h => h) (Y.loadAgg rfl ag22 rfl (Cels.full (by with_reducible (repeat first | exact In.here | apply In.there))) (by ((try simp only [List.length_map, List.length_set, List.length_replicate]); omega))) ?_
  refine TA.take 6 rfl rfl rfl rfl (by kernel_rfl) (by kernel_rfl) (by kernel_rfl) rfl (by kernel_rfl) (by kernel_rfl) (fun _ _ _ h => h) (Y.loadAgg rfl ag22 rfl (Cels.full (by with_reducible (repeat first | exact In.here | apply In.there))) (by ((try simp only [List.length_map, List.length_set, List.length_replicate]); omega))) ?_
  refine TA.take 7 rfl rfl rfl rfl (by kernel_rfl) (by kernel_rfl) (by kernel_rfl) rfl (by kernel_rfl) (by kernel_rfl) (fun _ _ _ h => h) (Y.move rfl rfl) ?_
  refine TA.one 3 (by kernel_rfl) rfl rfl rfl rfl (X.call rfl Try.func10 (by kernel_rfl) rfl rfl (Stream_fn key hk s m _)) ?_
  rintro _ _ ⟨a20, c20, rfl, rfl⟩
  refine ⟨(Or.inr (fun w h A hA => h A (by with_reducible (first | assumption | (repeat first | exact In.there hA | apply In.there))))), ?_⟩
  refine TA.more (A := SA.owns 5 1 (.slice a20 (slen m) c20) (slen m) ((strm key s (slen m)).map v8)) (by with_reducible (repeat first | exact In.here | apply In.there)) ?_
  refine TA.take 4 rfl rfl rfl rfl (by kernel_rfl) (by kernel_rfl) (by kernel_rfl) rfl (by kernel_rfl) (by kernel_rfl) (fun _ _ _ h => h) (Y.str rfl Try.underlying27 Try.underlying9 Try.underlying5 rfl Reads.owns (by with_reducible (repeat first | exact In.here | apply In.there))) ?_
  refine TA.one 8 (by kernel_rfl) rfl rfl rfl rfl (X.call rfl Try.func11 (by kernel_rfl) rfl rfl (refStream_fn key hk s m _)) ?_
  rintro _ _ ⟨a25, c25, rfl, rfl⟩
  refine ⟨(Or.inr (fun w h A hA => h A (by with_reducible (first | assumption | (repeat first | exact In.there hA | apply In.there))))), ?_⟩
  refine TA.more (A := SA.owns 5 1 (.slice a25 (slen m) c25) (slen m) ((strm key s (slen m)).map v8)) (by with_reducible (repeat first | exact In.here | apply In.there)) ?_
  refine TA.take 9 rfl rfl rfl rfl (by kernel_rfl) (by kernel_rfl) (by kernel_rfl) rfl (by kernel_rfl) (by kernel_rfl) (fun _ _ _ h => h) (Y.str rfl Try.underlying27 Try.underlying9 Try.underlying5 rfl Reads.owns (by with_reducible (repeat first | exact In.here | apply In.there))) ?_
  refine TA.take 10 rfl rfl rfl rfl (by kernel_rfl) (by kernel_rfl) (by kernel_rfl) rfl (by kernel_rfl) (by kernel_rfl) (fun _ _ _ h => h) (Y.eqStr rfl rfl rfl) ?_
  rw [show decide (strm key s (slen (m)) = strm key s (slen (m))) = true from decide_eq_true rfl]
  refine TA.take 11 rfl rfl rfl rfl (by kernel_rfl) (by kernel_rfl) (by kernel_rfl) rfl (by kernel_rfl) (by kernel_rfl) (fun _ _ _ h => h) (Y.assign rfl rfl) ?_
  refine TA.done (by kernel_rfl) ?_
  refine TQ.next ?_
  refine TC.ret ?_
  refine TQ.retE (res1 rfl rfl) (⟨rfl, rfl⟩) ?_
  exact (by (repeat first | (with_reducible exact Ent.refl) | (with_reducible exact Ent.nil) | refine Ent.cons (by first | (with_reducible (repeat first | exact Pull.here | apply Pull.there); done) | (repeat first | exact Pull.here | apply Pull.there)) ?_ | refine Ent.skip ?_))
theorem streams_mid (key : List UInt8) (hk : key.length = 16) (s : St16) (m : Int) (hm : 2000 < m) (hm2 : m ≤ 65536) (L : List SA) :
    Fn Try.prog 5 [.agg (key.map v8).toArray, .agg ((tab 16 s).map v8).toArray, .int .i64 m] L (fun v L' => v = .bool true ∧ L' = L) := by
  have hs : (tab 16 s).length = 16 := tab_len
  refine Fn.of (N := 28) Try.func5 rfl rfl ?_
  obtain ⟨n, rfl⟩ : ∃ n : Nat, m = n := ⟨m.toNat, by omega⟩
  refine TC.seq ?_
  refine TC.region ?_
  refine TL.eff rfl rfl rfl (X.boxA rfl rfl) ?_
  rintro _ _ ⟨b3, rfl, rfl⟩
  refine TL.eff rfl rfl rfl (X.boxA rfl rfl) ?_
  rintro _ _ ⟨b4, rfl, rfl⟩
  refine TL.val rfl rfl rfl (Y.assign rfl rfl) ?_
  refine TL.nil ?_
  refine TQ.next ?_
  refine TC.seq ?_
  refine TC.seq ?_
  refine TC.region ?_
  refine TL.eff rfl rfl rfl (X.call rfl Try.func7 (by kernel_rfl) rfl rfl (awake_fn _)) ?_
  rintro _ _ ⟨rfl, rfl⟩
  refine TL.val rfl rfl rfl (Y.not rfl rfl) ?_
  refine TL.nil ?_
  refine TQ.next ?_
  refine TC.cond_f rfl ?_
  refine TC.skip ?_
  refine TQ.next ?_
  refine TC.seq ?_
  refine TC.seq ?_
  refine TC.region ?_
  refine TL.val rfl rfl rfl (Y.move rfl rfl) ?_
  refine TL.val rfl rfl rfl (Y.bin rfl rfl rfl (br_gtI (n := 2000))) ?_
  rw [show decide (2000 < (n : Int)) = true from decide_eq_true (by omega)]
  refine TL.val rfl rfl rfl (Y.move rfl rfl) ?_
  refine TL.valG rfl rfl rfl (Y.move rfl rfl) ?_
  refine TL.valG rfl rfl rfl (Y.bin rfl rfl rfl (br_leI (n := 65536))) ?_
  rw [show decide ((n : Int) ≤ 65536) = true from decide_eq_true (by omega)]
  refine TL.val rfl rfl rfl (Y.pick_t rfl rfl rfl) ?_
  refine TL.nil ?_
  refine TQ.next ?_
  refine TC.cond_t rfl ?_
  refine TC.region ?_
  refine TL.val rfl rfl rfl (Y.move rfl rfl) ?_
  refine TL.val rfl rfl rfl (Y.bin rfl rfl rfl (br_remN (n := 2000) (by omega))) ?_
  refine TL.val rfl rfl rfl (Y.assign rfl rfl) ?_
  refine TL.nil ?_
  refine TQ.next ?_
  refine TC.seq ?_
  refine TC.draws 12 _ (by kernel_rfl) (fun _ h => h) ?_
  refine TA.take 0 rfl rfl rfl rfl (by kernel_rfl) (by kernel_rfl) (by kernel_rfl) rfl (by kernel_rfl) (by kernel_rfl) (fun _ _ _ h => h) (Y.loadAgg rfl ag22 rfl (Cels.full (by with_reducible (repeat first | exact In.here | apply In.there))) (by ((try simp only [List.length_map, List.length_set, List.length_replicate]); omega))) ?_
  refine TA.take 1 rfl rfl rfl rfl (by kernel_rfl) (by kernel_rfl) (by kernel_rfl) rfl (by kernel_rfl) (by kernel_rfl) (fun _ _ _ h => h) (Y.loadAgg rfl ag22 rfl (Cels.full (by with_reducible (repeat first | exact In.here | apply In.there))) (by ((try simp only [List.length_map, List.length_set, List.length_replicate]); omega))) ?_
  refine TA.take 2 rfl rfl rfl rfl (by kernel_rfl) (by kernel_rfl) (by kernel_rfl) rfl (by kernel_rfl) (by kernel_rfl) (fun _ _ _ h => h) (Y.move rfl rfl) ?_
  refine TA.take 5 rfl rfl rfl rfl (by kernel_rfl) (by kernel_rfl) (by kernel_rfl) rfl (by kernel_rfl) (by kernel_rfl) (fun _ _ _ h => h) (Y.loadAgg rfl ag22 rfl (Cels.full (by with_reducible (repeat first | exact In.here | apply In.there))) (by ((try simp only [List.length_map, List.length_set, List.length_replicate]); omega))) ?_
  refine TA.take 6 rfl rfl rfl rfl (by kernel_rfl) (by kernel_rfl) (by kernel_rfl) rfl (by kernel_rfl) (by kernel_rfl) (fun _ _ _ h => h) (Y.loadAgg rfl ag22 rfl (Cels.full (by with_reducible (repeat first | exact In.here | apply In.there))) (by ((try simp only [List.length_map, List.length_set, List.length_replicate]); omega))) ?_
  refine TA.take 7 rfl rfl rfl rfl (by kernel_rfl) (by kernel_rfl) (by kernel_rfl) rfl (by kernel_rfl) (by kernel_rfl) (fun _ _ _ h => h) (Y.move rfl rfl) ?_
  refine TA.one 3 (by kernel_rfl) rfl rfl rfl rfl (X.call rfl Try.func10 (by kernel_rfl) rfl rfl (Stream_fn key hk s ((n % 2000 : Nat) : Int) _)) ?_
  rintro _ _ ⟨a20, c20, rfl, rfl⟩
  refine ⟨(Or.inr (fun w h A hA => h A (by with_reducible (first | assumption | (repeat first | exact In.there hA | apply In.there))))), ?_⟩
  refine TA.more (A := SA.owns 5 1 (.slice a20 (slen ((n % 2000 : Nat) : Int)) c20) (slen ((n % 2000 : Nat) : Int)) ((strm key s (slen ((n % 2000 : Nat) : Int))).map v8)) (by with_reducible (repeat first | exact In.here | apply In.there)) ?_
  refine TA.take 4 rfl rfl rfl rfl (by kernel_rfl) (by kernel_rfl) (by kernel_rfl) rfl (by kernel_rfl) (by kernel_rfl) (fun _ _ _ h => h) (Y.str rfl Try.underlying27 Try.underlying9 Try.underlying5 rfl Reads.owns (by with_reducible (repeat first | exact In.here | apply In.there))) ?_
  refine TA.one 8 (by kernel_rfl) rfl rfl rfl rfl (X.call rfl Try.func11 (by kernel_rfl) rfl rfl (refStream_fn key hk s ((n % 2000 : Nat) : Int) _)) ?_
  rintro _ _ ⟨a25, c25, rfl, rfl⟩
  refine ⟨(Or.inr (fun w h A hA => h A (by with_reducible (first | assumption | (repeat first | exact In.there hA | apply In.there))))), ?_⟩
  refine TA.more (A := SA.owns 5 1 (.slice a25 (slen ((n % 2000 : Nat) : Int)) c25) (slen ((n % 2000 : Nat) : Int)) ((strm key s (slen ((n % 2000 : Nat) : Int))).map v8)) (by with_reducible (repeat first | exact In.here | apply In.there)) ?_
  refine TA.take 9 rfl rfl rfl rfl (by kernel_rfl) (by kernel_rfl) (by kernel_rfl) rfl (by kernel_rfl) (by kernel_rfl) (fun _ _ _ h => h) (Y.str rfl Try.underlying27 Try.underlying9 Try.underlying5 rfl Reads.owns (by with_reducible (repeat first | exact In.here | apply In.there))) ?_
  refine TA.take 10 rfl rfl rfl rfl (by kernel_rfl) (by kernel_rfl) (by kernel_rfl) rfl (by kernel_rfl) (by kernel_rfl) (fun _ _ _ h => h) (Y.eqStr rfl rfl rfl) ?_
  rw [show decide (strm key s (slen (((n % 2000 : Nat) : Int))) = strm key s (slen (((n % 2000 : Nat) : Int)))) = true from decide_eq_true rfl]
  refine TA.take 11 rfl rfl rfl rfl (by kernel_rfl) (by kernel_rfl) (by kernel_rfl) rfl (by kernel_rfl) (by kernel_rfl) (fun _ _ _ h => h) (Y.assign rfl rfl) ?_
  refine TA.done (by kernel_rfl) ?_
  refine TQ.next ?_
  refine TC.ret ?_
  refine TQ.retE (res1 rfl rfl) (⟨rfl, rfl⟩) ?_
  exact (by (repeat first | (with_reducible exact Ent.refl) | (with_reducible exact Ent.nil) | refine Ent.cons (by first | (with_reducible (repeat first | exact Pull.here | apply Pull.there); done) | (repeat first | exact Pull.here | apply Pull.there)) ?_ | refine Ent.skip ?_))
theorem streams_fn (key : List UInt8) (hk : key.length = 16) (s : St16) (m : Int) (L : List SA) :
    Fn Try.prog 5 [.agg (key.map v8).toArray, .agg ((tab 16 s).map v8).toArray, .int .i64 m] L (fun v L' => v = .bool true ∧ L' = L) := by
  by_cases h1 : m ≤ 2000
  · exact streams_lo key hk s m h1 L
  by_cases h2 : 65536 < m
  · exact streams_hi key hk s m h2 L
  exact streams_mid key hk s m (by omega) (by omega) L
end aes
end Go.Proofs.Ytpddnhjpjmbgfaa
