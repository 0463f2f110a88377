/- repair: nil ones, and memory of one's own. -/
import Derived.Test.YtnmpgiijbalihaaCacheT
namespace Go.Proofs.Ytnmpgiijbalihaa
set_option linter.unusedVariables false
set_option linter.unusedSimpArgs false
open Go.RowKit
namespace rep
namespace FxCacheN
set_option maxRecDepth 100000
theorem el43 : Elt Try.prog 43 5 1 1 (.int .u8 0) := ⟨Try.underlying43, by kernel_rfl, rfl, by decide, by simp [Value.cells, Value.oneCell']⟩
theorem sc5 : Program.isSc Try.prog 5 = true := by kernel_rfl
theorem sl43 : Program.slI Try.prog 43 = some 1 := by kernel_rfl
theorem sz5 : (Try.prog.info? 5).map (·.size) = some 1 := by kernel_rfl
end FxCacheN
open FxCacheN
theorem Keep_nil (q : UInt16) (v : Value) (L : List SA) : Fn Try.prog 16 [.pointer none, v16 q, v] L (fun _ L' => L' = L) := by
  refine Fn.of (N := 17) Try.func16 rfl rfl ?_
  intro Xh
  refine TC.seq ?_
  refine TC.region ?_
  refine TL.val rfl rfl rfl (Y.move rfl rfl) ?_
  refine TL.val rfl rfl rfl (by first | exact Y.neNilP rfl Try.underlying38 rfl rfl | exact Y.neNil0 rfl Try.underlying38 rfl rfl) ?_
  refine TL.nil ?_
  refine TQ.next ?_
  refine TC.cond_f rfl ?_
  refine TC.skip ?_
  refine TQ.endE (res0 rfl) (rfl) ?_
  exact (by (repeat first | (with_reducible apply Ent.refl) | (with_reducible apply Ent.nil) | refine Ent.cons (by first | (with_reducible (repeat first | apply Pull.here | apply Pull.there); done) | (repeat first | apply Pull.here | apply Pull.there)) ?_ | refine Ent.skip ?_))
theorem Find_nil (q : UInt16) (L : List SA) : Fn Try.prog 18 [.pointer none, v16 q] L (fun v L' => v = .tuple #[.slice none 0 0, .bool false] ∧ L' = L) := by
  refine Fn.of (N := 28) Try.func18 rfl rfl ?_
  intro Xh
  refine TC.seq ?_
  refine TC.region ?_
  refine TL.eff rfl rfl rfl (X.box1 rfl rfl rfl) ?_
  rintro _ _ ⟨b3, rfl, rfl⟩
  refine TL.val rfl rfl rfl (Y.assign rfl rfl) ?_
  refine TL.val rfl rfl rfl (Y.assign rfl rfl) ?_
  refine TL.nil ?_
  refine TQ.next ?_
  refine TC.seq ?_
  refine TC.seq ?_
  refine TC.region ?_
  refine TL.val rfl rfl rfl (Y.move rfl rfl) ?_
  refine TL.val rfl rfl rfl (by first | exact Y.eqNilP rfl Try.underlying38 rfl rfl | exact Y.eqNil0 rfl Try.underlying38 rfl rfl) ?_
  refine TL.nil ?_
  refine TQ.next ?_
  refine TC.cond_t rfl ?_
  refine TC.seq ?_
  refine TC.region ?_
  refine TL.val rfl rfl rfl (Y.assign rfl rfl) ?_
  refine TL.val rfl rfl rfl (Y.assign rfl rfl) ?_
  refine TL.nil ?_
  refine TQ.next ?_
  refine TC.ret ?_
  refine TQ.then_ret ?_
  refine TQ.retE (res2 rfl rfl rfl) (⟨rfl, rfl⟩) ?_
  exact (by (repeat first | (with_reducible apply Ent.refl) | (with_reducible apply Ent.nil) | refine Ent.cons (by first | (with_reducible (repeat first | apply Pull.here | apply Pull.there); done) | (repeat first | apply Pull.here | apply Pull.there)) ?_ | refine Ent.skip ?_))
theorem CLen_nil (L : List SA) : Fn Try.prog 19 [.pointer none] L (fun v L' => v = vN 0 ∧ L' = L) := by
  refine Fn.of (N := 10) Try.func19 rfl rfl ?_
  intro Xh
  refine TC.seq ?_
  refine TC.region ?_
  refine TL.val rfl rfl rfl (Y.assign rfl rfl) ?_
  refine TL.nil ?_
  refine TQ.next ?_
  refine TC.seq ?_
  refine TC.seq ?_
  refine TC.region ?_
  refine TL.val rfl rfl rfl (Y.move rfl rfl) ?_
  refine TL.val rfl rfl rfl (by first | exact Y.eqNilP rfl Try.underlying38 rfl rfl | exact Y.eqNil0 rfl Try.underlying38 rfl rfl) ?_
  refine TL.nil ?_
  refine TQ.next ?_
  refine TC.cond_t rfl ?_
  refine TC.seq ?_
  refine TC.region ?_
  refine TL.val rfl rfl rfl (Y.assign rfl rfl) ?_
  refine TL.nil ?_
  refine TQ.next ?_
  refine TC.ret ?_
  refine TQ.then_ret ?_
  refine TQ.retE (res1 rfl rfl) (⟨rfl, rfl⟩) ?_
  exact (by (repeat first | (with_reducible apply Ent.refl) | (with_reducible apply Ent.nil) | refine Ent.cons (by first | (with_reducible (repeat first | apply Pull.here | apply Pull.there); done) | (repeat first | apply Pull.here | apply Pull.there)) ?_ | refine Ent.skip ?_))
theorem Note_nil (q : UInt16) (L : List SA) : Fn Try.prog 22 [.pointer none, v16 q] L (fun v L' => v = .slice none 0 0 ∧ L' = L) := by
  refine Fn.of (N := 81) Try.func22 rfl rfl ?_
  intro Xh
  refine TC.seq ?_
  refine TC.region ?_
  refine TL.eff rfl rfl rfl (X.box1 rfl rfl rfl) ?_
  rintro _ _ ⟨b3, rfl, rfl⟩
  refine TL.val rfl rfl rfl (Y.assign rfl rfl) ?_
  refine TL.nil ?_
  refine TQ.next ?_
  refine TC.seq ?_
  refine TC.seq ?_
  refine TC.region ?_
  refine TL.val rfl rfl rfl (Y.move rfl rfl) ?_
  refine TL.val rfl rfl rfl (by first | exact Y.eqNilP rfl Try.underlying49 rfl rfl | exact Y.eqNil0 rfl Try.underlying49 rfl rfl) ?_
  refine TL.nil ?_
  refine TQ.next ?_
  refine TC.cond_t rfl ?_
  refine TC.seq ?_
  refine TC.region ?_
  refine TL.val rfl rfl rfl (Y.assign rfl rfl) ?_
  refine TL.nil ?_
  refine TQ.next ?_
  refine TC.ret ?_
  refine TQ.then_ret ?_
  refine TQ.retE (res1 rfl rfl) (⟨rfl, rfl⟩) ?_
  exact (by (repeat first | (with_reducible apply Ent.refl) | (with_reducible apply Ent.nil) | refine Ent.cons (by first | (with_reducible (repeat first | apply Pull.here | apply Pull.there); done) | (repeat first | apply Pull.here | apply Pull.there)) ?_ | refine Ent.skip ?_))
theorem List_nil (L : List SA) : Fn Try.prog 23 [.pointer none] L (fun v L' => v = .slice none 0 0 ∧ L' = L) := by
  refine Fn.of (N := 20) Try.func23 rfl rfl ?_
  intro Xh
  refine TC.seq ?_
  refine TC.region ?_
  refine TL.val rfl rfl rfl (Y.assign rfl rfl) ?_
  refine TL.nil ?_
  refine TQ.next ?_
  refine TC.seq ?_
  refine TC.seq ?_
  refine TC.region ?_
  refine TL.val rfl rfl rfl (Y.move rfl rfl) ?_
  refine TL.val rfl rfl rfl (by first | exact Y.eqNilP rfl Try.underlying49 rfl rfl | exact Y.eqNil0 rfl Try.underlying49 rfl rfl) ?_
  refine TL.nil ?_
  refine TQ.next ?_
  refine TC.cond_t rfl ?_
  refine TC.seq ?_
  refine TC.region ?_
  refine TL.val rfl rfl rfl (Y.assign rfl rfl) ?_
  refine TL.nil ?_
  refine TQ.next ?_
  refine TC.ret ?_
  refine TQ.then_ret ?_
  refine TQ.retE (res1 rfl rfl) (⟨rfl, rfl⟩) ?_
  exact (by (repeat first | (with_reducible apply Ent.refl) | (with_reducible apply Ent.nil) | refine Ent.cons (by first | (with_reducible (repeat first | apply Pull.here | apply Pull.there); done) | (repeat first | apply Pull.here | apply Pull.there)) ?_ | refine Ent.skip ?_))
theorem Ask_nil (s : UInt32) (now : Int) (L : List SA) : Fn Try.prog 9 [.pointer none, v32 s, vI now] L (fun v L' => v = .bool false ∧ L' = L) := by
  refine Fn.of (N := 41) Try.func9 rfl rfl ?_
  intro Xh
  refine TC.seq ?_
  refine TC.region ?_
  refine TL.val rfl rfl rfl (Y.assign rfl rfl) ?_
  refine TL.nil ?_
  refine TQ.next ?_
  refine TC.seq ?_
  refine TC.seq ?_
  refine TC.region ?_
  refine TL.val rfl rfl rfl (Y.move rfl rfl) ?_
  refine TL.val rfl rfl rfl (by first | exact Y.eqNilP rfl Try.underlying25 rfl rfl | exact Y.eqNil0 rfl Try.underlying25 rfl rfl) ?_
  refine TL.nil ?_
  refine TQ.next ?_
  refine TC.cond_t rfl ?_
  refine TC.seq ?_
  refine TC.region ?_
  refine TL.val rfl rfl rfl (Y.assign rfl rfl) ?_
  refine TL.nil ?_
  refine TQ.next ?_
  refine TC.ret ?_
  refine TQ.then_ret ?_
  refine TQ.retE (res1 rfl rfl) (⟨rfl, rfl⟩) ?_
  exact (by (repeat first | (with_reducible apply Ent.refl) | (with_reducible apply Ent.nil) | refine Ent.cons (by first | (with_reducible (repeat first | apply Pull.here | apply Pull.there); done) | (repeat first | apply Pull.here | apply Pull.there)) ?_ | refine Ent.skip ?_))
theorem TLen_nil (L : List SA) : Fn Try.prog 12 [.pointer none] L (fun v L' => v = vN 0 ∧ L' = L) := by
  refine Fn.of (N := 10) Try.func12 rfl rfl ?_
  intro Xh
  refine TC.seq ?_
  refine TC.region ?_
  refine TL.val rfl rfl rfl (Y.assign rfl rfl) ?_
  refine TL.nil ?_
  refine TQ.next ?_
  refine TC.seq ?_
  refine TC.seq ?_
  refine TC.region ?_
  refine TL.val rfl rfl rfl (Y.move rfl rfl) ?_
  refine TL.val rfl rfl rfl (by first | exact Y.eqNilP rfl Try.underlying25 rfl rfl | exact Y.eqNil0 rfl Try.underlying25 rfl rfl) ?_
  refine TL.nil ?_
  refine TQ.next ?_
  refine TC.cond_t rfl ?_
  refine TC.seq ?_
  refine TC.region ?_
  refine TL.val rfl rfl rfl (Y.assign rfl rfl) ?_
  refine TL.nil ?_
  refine TQ.next ?_
  refine TC.ret ?_
  refine TQ.then_ret ?_
  refine TQ.retE (res1 rfl rfl) (⟨rfl, rfl⟩) ?_
  exact (by (repeat first | (with_reducible apply Ent.refl) | (with_reducible apply Ent.nil) | refine Ent.cons (by first | (with_reducible (repeat first | apply Pull.here | apply Pull.there); done) | (repeat first | apply Pull.here | apply Pull.there)) ?_ | refine Ent.skip ?_))
set_option maxHeartbeats 4000000 in
theorem nil_fn (q : UInt16) (b : Option Addr) (bcap : Nat) (bs : List UInt8) (hb : bs.length ≤ 140737488351232) (now : Int) (L : List SA) :
    Fn Try.prog 6 [v16 q, .slice b bs.length bcap, vI now] (SA.dat (⟨b, bcap, bs⟩ : Bs) :: L) (fun v L' => v = .bool true ∧ L' = SA.dat (⟨b, bcap, bs⟩ : Bs) :: L) := by
  refine Fn.of (N := 117) Try.func6 rfl rfl ?_
  intro Xh
  refine TC.seq ?_
  refine TC.region ?_
  refine TL.val rfl rfl rfl (Y.assign rfl rfl) ?_
  refine TL.nil ?_
  refine TQ.next ?_
  refine TC.seq ?_
  refine TC.seq ?_
  refine TC.region ?_
  refine TL.eff rfl rfl rfl (X.call rfl Try.func7 (by kernel_rfl) rfl rfl (Fn.preE (by repeat first | (with_reducible apply Ent.refl) | (apply Ent.cons; case h => first | (with_reducible (repeat first | apply Pull.here | apply Pull.there); done) | (repeat first | apply Pull.here | apply Pull.there))) (rep.awake_fn _))) ?_
  rintro _ _ ⟨rfl, rfl⟩
  refine TL.val rfl rfl rfl (Y.not rfl rfl) ?_
  refine TL.nil ?_
  refine TQ.next ?_
  refine TC.cond_f rfl ?_
  refine TC.skip ?_
  refine TQ.next ?_
  refine TC.seq ?_
  refine TC.region ?_
  refine TL.val rfl rfl rfl (Y.assign rfl rfl) ?_
  refine TL.nil ?_
  refine TQ.next ?_
  refine TC.seq ?_
  refine TC.region ?_
  refine TL.val rfl rfl rfl (Y.assign rfl rfl) ?_
  refine TL.nil ?_
  refine TQ.next ?_
  refine TC.seq ?_
  refine TC.region ?_
  refine TL.val rfl rfl rfl (Y.assign rfl rfl) ?_
  refine TL.nil ?_
  refine TQ.next ?_
  refine TC.seq ?_
  refine TC.region ?_
  refine TL.val rfl rfl rfl (Y.move rfl rfl) ?_
  refine TL.val rfl rfl rfl (Y.move rfl rfl) ?_
  refine TL.val rfl rfl rfl (Y.move rfl rfl) ?_
  refine TL.eff rfl rfl rfl (X.call rfl Try.func16 (by kernel_rfl) rfl rfl (Fn.preE (by repeat first | (with_reducible apply Ent.refl) | (apply Ent.cons; case h => first | (with_reducible (repeat first | apply Pull.here | apply Pull.there); done) | (repeat first | apply Pull.here | apply Pull.there))) (Keep_nil q _ _))) ?_
  rintro _ _ rfl
  refine TL.nil ?_
  refine TQ.next ?_
  refine TC.seq ?_
  refine TC.region ?_
  refine TL.val rfl rfl rfl (Y.move rfl rfl) ?_
  refine TL.val rfl rfl rfl (Y.move rfl rfl) ?_
  refine TL.eff rfl rfl rfl (X.call rfl Try.func18 (by kernel_rfl) rfl rfl (Fn.preE (by repeat first | (with_reducible apply Ent.refl) | (apply Ent.cons; case h => first | (with_reducible (repeat first | apply Pull.here | apply Pull.there); done) | (repeat first | apply Pull.here | apply Pull.there))) (Find_nil q _))) ?_
  rintro _ _ ⟨rfl, rfl⟩
  refine TL.val rfl rfl rfl (Y.move rfl rfl) ?_
  refine TL.val rfl rfl rfl (Y.extract rfl rfl rfl) ?_
  refine TL.val rfl rfl rfl (Y.extract rfl rfl rfl) ?_
  refine TL.is false (by first | rfl | (simp only [decide_eq_true_eq, decide_eq_false_iff_not, Bool.not_eq_true', Bool.not_eq_false', Bool.not_eq_eq_eq_not, Bool.not_true, Bool.not_false, Nat.not_lt, Nat.not_le]; omega) | (simp [*]; done) | (simp; omega)) ?_
  refine TL.val rfl rfl rfl (Y.assign rfl rfl) ?_
  refine TL.val rfl rfl rfl (Y.assign rfl rfl) ?_
  refine TL.nil ?_
  refine TQ.next ?_
  refine TC.seq ?_
  refine TC.region ?_
  refine TL.eff rfl rfl rfl (X.call rfl Try.func14 (by kernel_rfl) rfl rfl (Fn.preE (by repeat first | (with_reducible apply Ent.refl) | (apply Ent.cons; case h => first | (with_reducible (repeat first | apply Pull.here | apply Pull.there); done) | (repeat first | apply Pull.here | apply Pull.there))) (rep.NewC_fn _))) ?_
  rintro _ _ ⟨k32, rg32, rfl, rfl⟩
  refine TL.val rfl rfl rfl (Y.assign rfl rfl) ?_
  refine TL.nil ?_
  refine TQ.next ?_
  refine TC.seq ?_
  refine TC.region ?_
  refine TL.eff rfl rfl rfl (X.lit rfl el43 rfl rfl rfl (by decide) rfl) ?_
  rintro _ _ ⟨g33, rfl, rfl⟩
  refine TL.val rfl rfl rfl (Y.move rfl rfl) ?_
  refine TL.eff rfl rfl rfl (X.appendS rfl el43 rfl (by first | (with_reducible (repeat first | apply Pull.here | apply Pull.there); done) | (repeat first | apply Pull.here | apply Pull.there)) rfl (Src.reads (n := bs.length) (cs := bs.map v8) (A := SA.dat (⟨b, bcap, bs⟩ : Bs)) Reads.bytes Try.underlying43 (by with_reducible (repeat first | apply In.here | apply In.there))) (by simp only [maxLen]; omega) (by omega)) ?_
  rintro _ _ ⟨a35, c35, rfl, rfl⟩
  simp only [Nat.zero_add, List.nil_append]
  refine TL.val rfl rfl rfl (Y.assign rfl rfl) ?_
  refine TL.nil ?_
  refine TQ.next ?_
  refine TC.seq ?_
  refine TC.region ?_
  refine TL.val rfl rfl rfl (Y.move rfl rfl) ?_
  refine TL.val rfl rfl rfl (Y.move rfl rfl) ?_
  refine TL.val rfl rfl rfl (Y.move rfl rfl) ?_
  refine TL.eff rfl rfl rfl (X.call rfl Try.func16 (by kernel_rfl) rfl rfl (Fn.preE (by repeat first | (with_reducible apply Ent.refl) | (apply Ent.cons; case h => first | (with_reducible (repeat first | apply Pull.here | apply Pull.there); done) | (repeat first | apply Pull.here | apply Pull.there))) (Keep_fn (SA.owns 5 1 (.slice a35 bs.length c35) bs.length (bs.map v8)) _ _ [] q a35 bs.length c35 bs Reads.owns rfl (by omega) (by decide) _))) ?_
  rintro _ _ ⟨s1, hs1, rfl⟩
  obtain ⟨l, hl⟩ : ∃ l, l = rgp.rput 64 [] (q, s1) := ⟨_, rfl⟩
  rw [← hl]
  have hfp : fb (l.map pl) q = (bs, true) := by rw [hl, fb_put (by decide), hs1]
  have hlen : l.length ≤ 64 := by rw [hl]; exact rput_len (by decide)
  have hok : Okb l := by rw [hl]; exact rput_ok (fun _ h => by cases h) (by rw [hs1]; exact hb)
  refine TL.nil ?_
  refine TQ.next ?_
  refine TC.seq ?_
  refine TC.seq ?_
  refine TC.region ?_
  refine TL.val rfl rfl rfl (Y.move rfl rfl) ?_
  refine TL.val rfl rfl rfl (Y.len rfl Try.underlying43 rfl) ?_
  refine TL.val rfl rfl rfl (Y.move rfl rfl) ?_
  refine TL.nil ?_
  refine TQ.next ?_
  refine TC.block ?_
  refine TC.loopF (ι := Nat × List UInt8) [] (fun i => i.1 ≤ bs.length ∧ i.2.length = bs.length) (fun i => [(42, some (vN i.1))]) (fun i => [SA.owns 5 1 (.slice a35 bs.length c35) bs.length (i.2.map v8)]) (fun i => bs.length - i.1) ((0, bs)) (⟨Nat.zero_le _, rfl⟩) ⟨rfl, trivial⟩ (Pulls.cons (by first | (with_reducible (repeat first | apply Pull.here | apply Pull.there); done) | (repeat first | apply Pull.here | apply Pull.there)) Pulls.nil) ?_
  rintro ⟨k, m⟩ ⟨hk, hm⟩ F' L' rfl hL'
  simp only [List.cons_append, List.nil_append] at hL'
  subst hL'
  simp only at hk hm ⊢
  refine TC.seq ?_
  refine TC.region ?_
  refine TL.val rfl rfl rfl (Y.bin rfl rfl rfl (br_ltN)) ?_
  refine TL.nil ?_
  refine TQ.next ?_
  refine TC.seq ?_
  refine TC.cond rfl (fun c1 => ?_) (fun c1 => ?_)
  · try simp only [decide_eq_true_eq, decide_eq_false_iff_not, Bool.not_eq_true', Bool.not_eq_false', Bool.and_eq_true, Bool.or_eq_true, Nat.not_lt, Nat.not_le, beq_iff_eq, bne_iff_ne] at c1
    refine TC.skip ?_
    refine TQ.next ?_
    refine TC.seq ?_
    refine TC.block ?_
    refine TC.seq ?_
    refine TC.region ?_
    refine TL.val rfl rfl rfl (Y.move rfl rfl) ?_
    refine TL.val rfl rfl rfl (Y.assign rfl rfl) ?_
    refine TL.nil ?_
    refine TQ.next ?_
    refine TC.know (owns_some (n := bs.length) (a := a35) (by with_reducible (repeat first | apply In.here | apply In.there)) (by omega)) ?_
    rintro ⟨g, off, rfl⟩
    refine TC.region ?_
    refine TL.val rfl rfl rfl (Y.move rfl rfl) ?_
    refine TL.val rfl rfl rfl (Y.move rfl rfl) ?_
    refine TL.val rfl rfl rfl (by first | exact Y.indexSlB rfl sl43 rfl rfl (by omega) (by ((try simp only [Nat.zero_add, Nat.add_zero, Nat.mul_one, Nat.one_mul, Nat.mul_zero, Nat.zero_mul]) <;> rfl)) | exact Y.indexSl rfl sl43 rfl rfl (by omega) (by ((try simp only [Nat.zero_add, Nat.add_zero, Nat.mul_one, Nat.one_mul, Nat.mul_zero, Nat.zero_mul]) <;> rfl))) ?_
    refine TL.val rfl rfl rfl (Y.load rfl sc5 rfl (by first | exact Cel.at0 Reads.owns (by with_reducible (repeat first | apply In.here | apply In.there)) (by assumption) (by rfl) | exact Cel.at Reads.owns (by with_reducible (repeat first | apply In.here | apply In.there)) (by assumption) (by rfl) | exact Cel.datAt0 (by with_reducible (repeat first | apply In.here | apply In.there)) (by assumption) (by rfl) | exact Cel.datAt (by with_reducible (repeat first | apply In.here | apply In.there)) (by assumption) (by rfl) | exact Cel.datAtS (by with_reducible (repeat first | apply In.here | apply In.there)) (by assumption) (by rfl) | exact Cel.blk (by with_reducible (repeat first | apply In.here | apply In.there)) (by first | exact getM (d := (0 : UInt8)) (by ((try simp only [List.length_set, List.length_map, List.length_append, List.length_replicate, List.size_toArray, List.length_cons, List.length_nil, Array.size_setIfInBounds]); (first | omega | exact of_decide_eq_true (by rfl)))) | rfl) | exact Cel.rblk (by with_reducible (repeat first | apply In.here | apply In.there)) (by first | exact getM (d := (0 : UInt8)) (by ((try simp only [List.length_set, List.length_map, List.length_append, List.length_replicate, List.size_toArray, List.length_cons, List.length_nil, Array.size_setIfInBounds]); (first | omega | exact of_decide_eq_true (by rfl)))) | rfl) | exact Cel.rds (by with_reducible (repeat first | apply In.here | apply In.there)) (getML (d := (0 : UInt8)) (by ((try simp only [List.length_set, List.length_map, List.length_append, List.length_replicate, List.size_toArray, List.length_cons, List.length_nil, Array.size_setIfInBounds]); (first | omega | exact of_decide_eq_true (by rfl))))) | exact Cel.rdsB (by with_reducible (repeat first | apply In.here | apply In.there)) (getML (d := (0 : UInt8)) (by ((try simp only [List.length_set, List.length_map, List.length_append, List.length_replicate, List.size_toArray, List.length_cons, List.length_nil, Array.size_setIfInBounds]); (first | omega | exact of_decide_eq_true (by rfl))))) | exact Cel.owns (by with_reducible (repeat first | apply In.here | apply In.there)) (getML (d := (0 : UInt8)) (by ((try simp only [List.length_set, List.length_map, List.length_append, List.length_replicate, List.size_toArray, List.length_cons, List.length_nil, Array.size_setIfInBounds]); (first | omega | exact of_decide_eq_true (by rfl))))) | exact Cel.reads (by assumption) (by with_reducible (repeat first | apply In.here | apply In.there)) (getML (d := (0 : UInt8)) (by ((try simp only [List.length_set, List.length_map, List.length_append, List.length_replicate, List.size_toArray, List.length_cons, List.length_nil, Array.size_setIfInBounds]); (first | omega | exact of_decide_eq_true (by rfl))))) | exact Cel.rds0 (by with_reducible (repeat first | apply In.here | apply In.there)) (getML (d := (0 : UInt8)) (by ((try simp only [List.length_set, List.length_map, List.length_append, List.length_replicate, List.size_toArray, List.length_cons, List.length_nil, Array.size_setIfInBounds]); (first | omega | exact of_decide_eq_true (by rfl))))) | exact Cel.owns0 (by with_reducible (repeat first | apply In.here | apply In.there)) (getML (d := (0 : UInt8)) (by ((try simp only [List.length_set, List.length_map, List.length_append, List.length_replicate, List.size_toArray, List.length_cons, List.length_nil, Array.size_setIfInBounds]); (first | omega | exact of_decide_eq_true (by rfl))))))) ?_
    refine TL.val rfl rfl rfl (Y.bin rfl rfl rfl (br_add8 (y := 1))) ?_
    refine TL.val rfl rfl rfl (by first | exact Y.indexSlB rfl sl43 rfl rfl (by omega) (by ((try simp only [Nat.zero_add, Nat.add_zero, Nat.mul_one, Nat.one_mul, Nat.mul_zero, Nat.zero_mul]) <;> rfl)) | exact Y.indexSl rfl sl43 rfl rfl (by omega) (by ((try simp only [Nat.zero_add, Nat.add_zero, Nat.mul_one, Nat.one_mul, Nat.mul_zero, Nat.zero_mul]) <;> rfl))) ?_
    refine TL.eff0 rfl rfl (by first | exact X.store rfl sz5 rfl rfl rfl (by first | (with_reducible (repeat first | apply Pull.here | apply Pull.there); done) | (repeat first | apply Pull.here | apply Pull.there)) (by ((try simp only [List.length_set, List.length_map, List.length_append, List.length_replicate, List.size_toArray, List.length_cons, List.length_nil, Array.size_setIfInBounds]); (first | omega | exact of_decide_eq_true (by rfl)))) (by first | exact setM | rfl) | exact X.storeOwn rfl sz5 rfl (Nat.zero_add _).symm rfl rfl (by first | (with_reducible (repeat first | apply Pull.here | apply Pull.there); done) | (repeat first | apply Pull.here | apply Pull.there)) (by ((try simp only [List.length_set, List.length_map, List.length_append, List.length_replicate, List.size_toArray, List.length_cons, List.length_nil, Array.size_setIfInBounds]); (first | omega | exact of_decide_eq_true (by rfl)))) (by first | exact setML | rfl) | exact X.storeOwn rfl sz5 rfl rfl rfl rfl (by first | (with_reducible (repeat first | apply Pull.here | apply Pull.there); done) | (repeat first | apply Pull.here | apply Pull.there)) (by ((try simp only [List.length_set, List.length_map, List.length_append, List.length_replicate, List.size_toArray, List.length_cons, List.length_nil, Array.size_setIfInBounds]); (first | omega | exact of_decide_eq_true (by rfl)))) (by first | exact setML | rfl)) ?_
    rintro _ _ rfl
    refine TL.nil ?_
    refine TQ.block_normal ?_
    refine TQ.next ?_
    refine TC.region ?_
    refine TL.val rfl rfl rfl (Y.bin rfl rfl rfl (br_addN (n := 1) (by omega))) ?_
    refine TL.val rfl rfl rfl (Y.move rfl rfl) ?_
    refine TL.nil ?_
    refine TQ.loopF ((k + 1, m.set k (m.getD k 0 + 1))) (⟨by simp only; omega, by simp only [List.length_set]; exact hm⟩) (by simp only; omega) ⟨rfl, trivial⟩ (by (repeat first | apply Grow.refl | apply Grow.step | apply Grow.app)) ?_ ?_ ?_
    · kernel_rfl
    · rfl
    · simp only [List.cons_append, List.nil_append]
      exact (by (repeat first | (with_reducible apply Ent.refl) | (with_reducible apply Ent.nil) | refine Ent.cons (by first | (with_reducible (repeat first | apply Pull.here | apply Pull.there); done) | (repeat first | apply Pull.here | apply Pull.there)) ?_ | refine Ent.skip ?_))
  · try simp only [decide_eq_true_eq, decide_eq_false_iff_not, Bool.not_eq_true', Bool.not_eq_false', Bool.and_eq_true, Bool.or_eq_true, Nat.not_lt, Nat.not_le, beq_iff_eq, bne_iff_ne] at c1
    refine TC.exit ?_
    refine TQ.then_exit ?_
    refine TQ.then_exit ?_
    refine TQ.block_exit ?_
    refine TQ.next ?_
    refine TC.seq ?_
    refine TC.region ?_
    refine TL.val rfl rfl rfl (Y.move rfl rfl) ?_
    refine TL.val rfl rfl rfl (Y.move rfl rfl) ?_
    refine TL.eff rfl rfl rfl (X.call rfl Try.func18 (by kernel_rfl) rfl rfl (Fn.preE (by repeat first | (with_reducible apply Ent.refl) | (apply Ent.cons; case h => first | (with_reducible (repeat first | apply Pull.here | apply Pull.there); done) | (repeat first | apply Pull.here | apply Pull.there))) (rep.Find_fn _ _ _ _ (by omega) (by assumption) _))) ?_
    rintro _ _ ⟨a55, c55, rfl, rfl⟩
    rw [hfp]
    refine TL.val rfl rfl rfl (Y.move rfl rfl) ?_
    refine TL.val rfl rfl rfl (Y.extract rfl rfl rfl) ?_
    refine TL.val rfl rfl rfl (Y.extract rfl rfl rfl) ?_
    refine TL.val rfl rfl rfl (Y.assign rfl rfl) ?_
    refine TL.val rfl rfl rfl (Y.assign rfl rfl) ?_
    refine TL.nil ?_
    refine TQ.next ?_
    refine TC.seq ?_
    refine TC.seq ?_
    refine TC.region ?_
    refine TL.val rfl rfl rfl (Y.move rfl rfl) ?_
    refine TL.as (.slice a55 bs.length c55) (by rfl) ?_
    refine TL.val rfl rfl rfl (Y.len rfl Try.underlying43 rfl) ?_
    refine TL.val rfl rfl rfl (Y.move rfl rfl) ?_
    refine TL.nil ?_
    refine TQ.next ?_
    refine TC.block ?_
    refine TC.loopF (ι := Nat × List UInt8) [] (fun i => i.1 ≤ bs.length ∧ i.2.length = bs.length) (fun i => [(60, some (vN i.1))]) (fun i => [SA.owns 5 1 (.slice a55 bs.length c55) bs.length (i.2.map v8)]) (fun i => bs.length - i.1) ((0, bs)) (⟨Nat.zero_le _, rfl⟩) ⟨rfl, trivial⟩ (Pulls.cons (by first | (with_reducible (repeat first | apply Pull.here | apply Pull.there); done) | (repeat first | apply Pull.here | apply Pull.there)) Pulls.nil) ?_
    rintro ⟨j, m'⟩ ⟨hj, hm'⟩ F' L' rfl hL'
    simp only [List.cons_append, List.nil_append] at hL'
    subst hL'
    simp only at hj hm' ⊢
    refine TC.seq ?_
    refine TC.region ?_
    refine TL.val rfl rfl rfl (Y.bin rfl rfl rfl (br_ltN)) ?_
    refine TL.nil ?_
    refine TQ.next ?_
    refine TC.seq ?_
    refine TC.cond rfl (fun c2 => ?_) (fun c2 => ?_)
    · try simp only [decide_eq_true_eq, decide_eq_false_iff_not, Bool.not_eq_true', Bool.not_eq_false', Bool.and_eq_true, Bool.or_eq_true, Nat.not_lt, Nat.not_le, beq_iff_eq, bne_iff_ne] at c2
      refine TC.skip ?_
      refine TQ.next ?_
      refine TC.seq ?_
      refine TC.block ?_
      refine TC.seq ?_
      refine TC.region ?_
      refine TL.val rfl rfl rfl (Y.move rfl rfl) ?_
      refine TL.val rfl rfl rfl (Y.assign rfl rfl) ?_
      refine TL.nil ?_
      refine TQ.next ?_
      refine TC.know (owns_some (n := bs.length) (a := a55) (by with_reducible (repeat first | apply In.here | apply In.there)) (by omega)) ?_
      rintro ⟨g', off', rfl⟩
      refine TC.region ?_
      refine TL.val rfl rfl rfl (Y.move rfl rfl) ?_
      refine TL.as (.slice (some ⟨g', off', none⟩) bs.length c55) (by rfl) ?_
      refine TL.val rfl rfl rfl (Y.move rfl rfl) ?_
      refine TL.val rfl rfl rfl (by first | exact Y.indexSlB rfl sl43 rfl rfl (by omega) (by ((try simp only [Nat.zero_add, Nat.add_zero, Nat.mul_one, Nat.one_mul, Nat.mul_zero, Nat.zero_mul]) <;> rfl)) | exact Y.indexSl rfl sl43 rfl rfl (by omega) (by ((try simp only [Nat.zero_add, Nat.add_zero, Nat.mul_one, Nat.one_mul, Nat.mul_zero, Nat.zero_mul]) <;> rfl))) ?_
      refine TL.val rfl rfl rfl (Y.load rfl sc5 rfl (by first | exact Cel.at0 Reads.owns (by with_reducible (repeat first | apply In.here | apply In.there)) (by assumption) (by rfl) | exact Cel.at Reads.owns (by with_reducible (repeat first | apply In.here | apply In.there)) (by assumption) (by rfl) | exact Cel.datAt0 (by with_reducible (repeat first | apply In.here | apply In.there)) (by assumption) (by rfl) | exact Cel.datAt (by with_reducible (repeat first | apply In.here | apply In.there)) (by assumption) (by rfl) | exact Cel.datAtS (by with_reducible (repeat first | apply In.here | apply In.there)) (by assumption) (by rfl) | exact Cel.blk (by with_reducible (repeat first | apply In.here | apply In.there)) (by first | exact getM (d := (0 : UInt8)) (by ((try simp only [List.length_set, List.length_map, List.length_append, List.length_replicate, List.size_toArray, List.length_cons, List.length_nil, Array.size_setIfInBounds]); (first | omega | exact of_decide_eq_true (by rfl)))) | rfl) | exact Cel.rblk (by with_reducible (repeat first | apply In.here | apply In.there)) (by first | exact getM (d := (0 : UInt8)) (by ((try simp only [List.length_set, List.length_map, List.length_append, List.length_replicate, List.size_toArray, List.length_cons, List.length_nil, Array.size_setIfInBounds]); (first | omega | exact of_decide_eq_true (by rfl)))) | rfl) | exact Cel.rds (by with_reducible (repeat first | apply In.here | apply In.there)) (getML (d := (0 : UInt8)) (by ((try simp only [List.length_set, List.length_map, List.length_append, List.length_replicate, List.size_toArray, List.length_cons, List.length_nil, Array.size_setIfInBounds]); (first | omega | exact of_decide_eq_true (by rfl))))) | exact Cel.rdsB (by with_reducible (repeat first | apply In.here | apply In.there)) (getML (d := (0 : UInt8)) (by ((try simp only [List.length_set, List.length_map, List.length_append, List.length_replicate, List.size_toArray, List.length_cons, List.length_nil, Array.size_setIfInBounds]); (first | omega | exact of_decide_eq_true (by rfl))))) | exact Cel.owns (by with_reducible (repeat first | apply In.here | apply In.there)) (getML (d := (0 : UInt8)) (by ((try simp only [List.length_set, List.length_map, List.length_append, List.length_replicate, List.size_toArray, List.length_cons, List.length_nil, Array.size_setIfInBounds]); (first | omega | exact of_decide_eq_true (by rfl))))) | exact Cel.reads (by assumption) (by with_reducible (repeat first | apply In.here | apply In.there)) (getML (d := (0 : UInt8)) (by ((try simp only [List.length_set, List.length_map, List.length_append, List.length_replicate, List.size_toArray, List.length_cons, List.length_nil, Array.size_setIfInBounds]); (first | omega | exact of_decide_eq_true (by rfl))))) | exact Cel.rds0 (by with_reducible (repeat first | apply In.here | apply In.there)) (getML (d := (0 : UInt8)) (by ((try simp only [List.length_set, List.length_map, List.length_append, List.length_replicate, List.size_toArray, List.length_cons, List.length_nil, Array.size_setIfInBounds]); (first | omega | exact of_decide_eq_true (by rfl))))) | exact Cel.owns0 (by with_reducible (repeat first | apply In.here | apply In.there)) (getML (d := (0 : UInt8)) (by ((try simp only [List.length_set, List.length_map, List.length_append, List.length_replicate, List.size_toArray, List.length_cons, List.length_nil, Array.size_setIfInBounds]); (first | omega | exact of_decide_eq_true (by rfl))))))) ?_
      refine TL.val rfl rfl rfl (Y.bin rfl rfl rfl (br_add8 (y := 1))) ?_
      refine TL.val rfl rfl rfl (by first | exact Y.indexSlB rfl sl43 rfl rfl (by omega) (by ((try simp only [Nat.zero_add, Nat.add_zero, Nat.mul_one, Nat.one_mul, Nat.mul_zero, Nat.zero_mul]) <;> rfl)) | exact Y.indexSl rfl sl43 rfl rfl (by omega) (by ((try simp only [Nat.zero_add, Nat.add_zero, Nat.mul_one, Nat.one_mul, Nat.mul_zero, Nat.zero_mul]) <;> rfl))) ?_
      refine TL.eff0 rfl rfl (by first | exact X.store rfl sz5 rfl rfl rfl (by first | (with_reducible (repeat first | apply Pull.here | apply Pull.there); done) | (repeat first | apply Pull.here | apply Pull.there)) (by ((try simp only [List.length_set, List.length_map, List.length_append, List.length_replicate, List.size_toArray, List.length_cons, List.length_nil, Array.size_setIfInBounds]); (first | omega | exact of_decide_eq_true (by rfl)))) (by first | exact setM | rfl) | exact X.storeOwn rfl sz5 rfl (Nat.zero_add _).symm rfl rfl (by first | (with_reducible (repeat first | apply Pull.here | apply Pull.there); done) | (repeat first | apply Pull.here | apply Pull.there)) (by ((try simp only [List.length_set, List.length_map, List.length_append, List.length_replicate, List.size_toArray, List.length_cons, List.length_nil, Array.size_setIfInBounds]); (first | omega | exact of_decide_eq_true (by rfl)))) (by first | exact setML | rfl) | exact X.storeOwn rfl sz5 rfl rfl rfl rfl (by first | (with_reducible (repeat first | apply Pull.here | apply Pull.there); done) | (repeat first | apply Pull.here | apply Pull.there)) (by ((try simp only [List.length_set, List.length_map, List.length_append, List.length_replicate, List.size_toArray, List.length_cons, List.length_nil, Array.size_setIfInBounds]); (first | omega | exact of_decide_eq_true (by rfl)))) (by first | exact setML | rfl)) ?_
      rintro _ _ rfl
      refine TL.nil ?_
      refine TQ.block_normal ?_
      refine TQ.next ?_
      refine TC.region ?_
      refine TL.val rfl rfl rfl (Y.bin rfl rfl rfl (br_addN (n := 1) (by omega))) ?_
      refine TL.val rfl rfl rfl (Y.move rfl rfl) ?_
      refine TL.nil ?_
      refine TQ.loopF ((j + 1, m'.set j (m'.getD j 0 + 1))) (⟨by simp only; omega, by simp only [List.length_set]; exact hm'⟩) (by simp only; omega) ⟨rfl, trivial⟩ (by (repeat first | apply Grow.refl | apply Grow.step | apply Grow.app)) ?_ ?_ ?_
      · kernel_rfl
      · rfl
      · simp only [List.cons_append, List.nil_append]
        exact (by (repeat first | (with_reducible apply Ent.refl) | (with_reducible apply Ent.nil) | refine Ent.cons (by first | (with_reducible (repeat first | apply Pull.here | apply Pull.there); done) | (repeat first | apply Pull.here | apply Pull.there)) ?_ | refine Ent.skip ?_))
    · try simp only [decide_eq_true_eq, decide_eq_false_iff_not, Bool.not_eq_true', Bool.not_eq_false', Bool.and_eq_true, Bool.or_eq_true, Nat.not_lt, Nat.not_le, beq_iff_eq, bne_iff_ne] at c2
      refine TC.exit ?_
      refine TQ.then_exit ?_
      refine TQ.then_exit ?_
      refine TQ.block_exit ?_
      refine TQ.next ?_
      refine TC.seq ?_
      refine TC.region ?_
      refine TL.val rfl rfl rfl (Y.move rfl rfl) ?_
      refine TL.val rfl rfl rfl (Y.move rfl rfl) ?_
      refine TL.eff rfl rfl rfl (X.call rfl Try.func18 (by kernel_rfl) rfl rfl (Fn.preE (by repeat first | (with_reducible apply Ent.refl) | (apply Ent.cons; case h => first | (with_reducible (repeat first | apply Pull.here | apply Pull.there); done) | (repeat first | apply Pull.here | apply Pull.there))) (rep.Find_fn _ _ _ _ (by omega) (by assumption) _))) ?_
      rintro _ _ ⟨a73, c73, rfl, rfl⟩
      rw [hfp]
      refine TL.val rfl rfl rfl (Y.move rfl rfl) ?_
      refine TL.val rfl rfl rfl (Y.extract rfl rfl rfl) ?_
      refine TL.val rfl rfl rfl (Y.extract rfl rfl rfl) ?_
      refine TL.is true (by first | rfl | (simp only [decide_eq_true_eq, decide_eq_false_iff_not, Bool.not_eq_true', Bool.not_eq_false', Bool.not_eq_eq_eq_not, Bool.not_true, Bool.not_false, Nat.not_lt, Nat.not_le]; omega) | (simp [*]; done) | (simp; omega)) ?_
      refine TL.val rfl rfl rfl (Y.assign rfl rfl) ?_
      refine TL.val rfl rfl rfl (Y.assign rfl rfl) ?_
      refine TL.nil ?_
      refine TQ.next ?_
      refine TC.seq ?_
      refine TC.region ?_
      refine TL.val rfl rfl rfl (Y.move rfl rfl) ?_
      refine TL.val rfl rfl rfl (Y.not rfl rfl) ?_
      refine TL.val rfl rfl rfl (Y.move rfl rfl) ?_
      refine TL.valG rfl rfl rfl (Y.move rfl rfl) ?_
      refine TL.effG rfl rfl rfl (X.call rfl Try.func19 (by kernel_rfl) rfl rfl (Fn.preE (by repeat first | (with_reducible apply Ent.refl) | (apply Ent.cons; case h => first | (with_reducible (repeat first | apply Pull.here | apply Pull.there); done) | (repeat first | apply Pull.here | apply Pull.there))) (CLen_nil _))) ?_
      rintro _ _ ⟨rfl, rfl⟩
      refine TL.valG rfl rfl rfl (Y.bin rfl rfl rfl (br_eqN (n := 0))) ?_
      refine TL.is true (by first | rfl | (simp only [decide_eq_true_eq, decide_eq_false_iff_not, Bool.not_eq_true', Bool.not_eq_false', Bool.not_eq_eq_eq_not, Bool.not_true, Bool.not_false, Nat.not_lt, Nat.not_le]; omega) | (simp [*]; done) | (simp; omega)) ?_
      refine TL.val rfl rfl rfl (Y.pick_t rfl rfl rfl) ?_
      refine TL.val rfl rfl rfl (Y.move rfl rfl) ?_
      refine TL.valG rfl rfl rfl (Y.move rfl rfl) ?_
      refine TL.valG rfl rfl rfl (Y.move rfl rfl) ?_
      refine TL.effG rfl rfl rfl (X.call rfl Try.func22 (by kernel_rfl) rfl rfl (Fn.preE (by repeat first | (with_reducible apply Ent.refl) | (apply Ent.cons; case h => first | (with_reducible (repeat first | apply Pull.here | apply Pull.there); done) | (repeat first | apply Pull.here | apply Pull.there))) (Note_nil q _))) ?_
      rintro _ _ ⟨rfl, rfl⟩
      refine TL.valG rfl rfl rfl (Y.len rfl Try.underlying23 rfl) ?_
      refine TL.valG rfl rfl rfl (Y.bin rfl rfl rfl (br_eqN (n := 0))) ?_
      refine TL.is true (by first | rfl | (simp only [decide_eq_true_eq, decide_eq_false_iff_not, Bool.not_eq_true', Bool.not_eq_false', Bool.not_eq_eq_eq_not, Bool.not_true, Bool.not_false, Nat.not_lt, Nat.not_le]; omega) | (simp [*]; done) | (simp; omega)) ?_
      refine TL.val rfl rfl rfl (Y.pick_t rfl rfl rfl) ?_
      refine TL.val rfl rfl rfl (Y.move rfl rfl) ?_
      refine TL.valG rfl rfl rfl (Y.move rfl rfl) ?_
      refine TL.effG rfl rfl rfl (X.call rfl Try.func23 (by kernel_rfl) rfl rfl (Fn.preE (by repeat first | (with_reducible apply Ent.refl) | (apply Ent.cons; case h => first | (with_reducible (repeat first | apply Pull.here | apply Pull.there); done) | (repeat first | apply Pull.here | apply Pull.there))) (List_nil _))) ?_
      rintro _ _ ⟨rfl, rfl⟩
      refine TL.valG rfl rfl rfl (Y.len rfl Try.underlying23 rfl) ?_
      refine TL.valG rfl rfl rfl (Y.bin rfl rfl rfl (br_eqN (n := 0))) ?_
      refine TL.is true (by first | rfl | (simp only [decide_eq_true_eq, decide_eq_false_iff_not, Bool.not_eq_true', Bool.not_eq_false', Bool.not_eq_eq_eq_not, Bool.not_true, Bool.not_false, Nat.not_lt, Nat.not_le]; omega) | (simp [*]; done) | (simp; omega)) ?_
      refine TL.val rfl rfl rfl (Y.pick_t rfl rfl rfl) ?_
      refine TL.val rfl rfl rfl (Y.move rfl rfl) ?_
      refine TL.valG rfl rfl rfl (Y.move rfl rfl) ?_
      refine TL.valG rfl rfl rfl (Y.move rfl rfl) ?_
      refine TL.effG rfl rfl rfl (X.call rfl Try.func9 (by kernel_rfl) rfl rfl (Fn.preE (by repeat first | (with_reducible apply Ent.refl) | (apply Ent.cons; case h => first | (with_reducible (repeat first | apply Pull.here | apply Pull.there); done) | (repeat first | apply Pull.here | apply Pull.there))) (Ask_nil 1 now _))) ?_
      rintro _ _ ⟨rfl, rfl⟩
      refine TL.valG rfl rfl rfl (Y.not rfl rfl) ?_
      refine TL.val rfl rfl rfl (Y.pick_t rfl rfl rfl) ?_
      refine TL.val rfl rfl rfl (Y.move rfl rfl) ?_
      refine TL.valG rfl rfl rfl (Y.move rfl rfl) ?_
      refine TL.effG rfl rfl rfl (X.call rfl Try.func12 (by kernel_rfl) rfl rfl (Fn.preE (by repeat first | (with_reducible apply Ent.refl) | (apply Ent.cons; case h => first | (with_reducible (repeat first | apply Pull.here | apply Pull.there); done) | (repeat first | apply Pull.here | apply Pull.there))) (TLen_nil _))) ?_
      rintro _ _ ⟨rfl, rfl⟩
      refine TL.valG rfl rfl rfl (Y.bin rfl rfl rfl (br_eqN (n := 0))) ?_
      refine TL.is true (by first | rfl | (simp only [decide_eq_true_eq, decide_eq_false_iff_not, Bool.not_eq_true', Bool.not_eq_false', Bool.not_eq_eq_eq_not, Bool.not_true, Bool.not_false, Nat.not_lt, Nat.not_le]; omega) | (simp [*]; done) | (simp; omega)) ?_
      refine TL.val rfl rfl rfl (Y.pick_t rfl rfl rfl) ?_
      refine TL.val rfl rfl rfl (Y.move rfl rfl) ?_
      refine TL.valG rfl rfl rfl (Y.move rfl rfl) ?_
      refine TL.val rfl rfl rfl (Y.pick_t rfl rfl rfl) ?_
      refine TL.val rfl rfl rfl (Y.move rfl rfl) ?_
      refine TL.valG rfl rfl rfl (Y.move rfl rfl) ?_
      refine TL.as (.slice a73 bs.length c73) (by rfl) ?_
      refine TL.valG rfl rfl rfl (Y.str rfl Try.underlying43 Try.underlying9 Try.underlying5 rfl Reads.owns (by with_reducible (repeat first | apply In.here | apply In.there))) ?_
      refine TL.valG rfl rfl rfl (Y.move rfl rfl) ?_
      refine TL.valG rfl rfl rfl (Y.str rfl Try.underlying43 Try.underlying9 Try.underlying5 rfl (A := SA.dat (⟨b, bcap, bs⟩ : Bs)) Reads.bytes (by with_reducible (repeat first | apply In.here | apply In.there))) ?_
      refine TL.valG rfl rfl rfl (Y.eqStr rfl rfl rfl) ?_
      refine TL.is true (by first | rfl | (simp only [decide_eq_true_eq, decide_eq_false_iff_not, Bool.not_eq_true', Bool.not_eq_false', Bool.not_eq_eq_eq_not, Bool.not_true, Bool.not_false, Nat.not_lt, Nat.not_le]; omega) | (simp [*]; done) | (simp; omega)) ?_
      refine TL.val rfl rfl rfl (Y.pick_t rfl rfl rfl) ?_
      refine TL.is true (by first | rfl | (simp only [decide_eq_true_eq, decide_eq_false_iff_not, Bool.not_eq_true', Bool.not_eq_false', Bool.not_eq_eq_eq_not, Bool.not_true, Bool.not_false, Nat.not_lt, Nat.not_le]; omega) | (simp [*]; done) | (simp; omega)) ?_
      refine TL.val rfl rfl rfl (Y.assign rfl rfl) ?_
      refine TL.nil ?_
      refine TQ.next ?_
      refine TC.ret ?_
      refine TQ.retE (res1 rfl rfl) (⟨rfl, rfl⟩) ?_
      exact (by (repeat first | (with_reducible apply Ent.refl) | (with_reducible apply Ent.nil) | refine Ent.cons (by first | (with_reducible (repeat first | apply Pull.here | apply Pull.there); done) | (repeat first | apply Pull.here | apply Pull.there)) ?_ | refine Ent.skip ?_))
end rep
end Go.Proofs.Ytnmpgiijbalihaa
