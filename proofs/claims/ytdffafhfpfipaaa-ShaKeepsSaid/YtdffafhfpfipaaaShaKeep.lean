/- SHA-1: what is handed in stays, and what lies behind it. -/
import Derived.Test.YtdffafhfpfipaaaShaTop2
import Derived.Test.YtdffafhfpfipaaaHMore
namespace Go.Proofs.Ytdffafhfpfipaaa
set_option linter.unusedVariables false
set_option linter.unusedSimpArgs false
open Go.RowKit
namespace sha
namespace FxShaKeep
set_option maxRecDepth 100000
theorem el22 : Elt Try.prog 22 5 1 1 (.int .u8 0) := ⟨Try.underlying22, by kernel_rfl, rfl, by decide, by simp [Value.cells, Value.oneCell']⟩
theorem sc5 : Program.isSc Try.prog 5 = true := by kernel_rfl
theorem sl22 : Program.slI Try.prog 22 = some 1 := by kernel_rfl
theorem sz5 : (Try.prog.info? 5).map (·.size) = some 1 := by kernel_rfl
end FxShaKeep
open FxShaKeep
theorem last_at (xs : List UInt8) (b : UInt8) : (xs ++ [b]).getD xs.length 0 = b := by simp
theorem cells_b (xs : List UInt8) (b : UInt8) : (([] : List Value) ++ xs.map v8) ++ [v8 b] = (xs ++ [b]).map v8 := by simp
theorem Ent.shorts {L : List SA} {a : Option Addr} {c : Nat} (xs : List UInt8) (b : UInt8) : Ent (SA.owns 5 1 (.slice a (0 + xs.length + 1) c) (0 + xs.length + 1) (([] : List Value) ++ xs.map v8 ++ [v8 b]) :: L)
    (SA.rds 1 (.slice a xs.length c) xs.length (xs.map v8) :: SA.rds 1 (.slice a (xs.length + 1) c) (xs.length + 1) ((xs ++ [b]).map v8) :: L) := by
  rw [cells_b, Nat.zero_add]
  refine Ent.freeze.trans ((Ent.dup Dup.rds).trans ?_)
  have := Ent.takeRds (L := SA.rds 1 (.slice a (xs.length + 1) c) (xs.length + 1) ((xs ++ [b]).map v8) :: L) (sz := 1) (n := xs.length + 1) (cap := c) (a := a) (cs := (xs ++ [b]).map v8) (k := xs.length) (by omega)
  rwa [show ((xs ++ [b]).map v8).take (xs.length * 1) = xs.map v8 by simp] at this
set_option maxHeartbeats 1000000 in
theorem keeps_fn (a0 : Option Addr) (n0 c0 : Nat) (ys : List UInt8) (hn0 : ys.length = n0) (a1 : Option Addr) (n1 c1 : Nat) (xs : List UInt8) (hn1 : xs.length = n1) (hl0 : n0 ≤ 140737488351232) (hl1 : n1 ≤ 140737488351232) (L : List SA) :
    Fn Try.prog 7 [.slice a0 n0 c0, .slice a1 n1 c1] (SA.rds 1 (.slice a0 n0 c0) n0 (ys.map v8) :: SA.rds 1 (.slice a1 n1 c1) n1 (xs.map v8) :: L)
      (fun v L' => v = .bool true ∧ L' = SA.rds 1 (.slice a0 n0 c0) n0 (ys.map v8) :: SA.rds 1 (.slice a1 n1 c1) n1 (xs.map v8) :: L) := by
  subst hn0; subst hn1
  refine Fn.of (N := 72) Try.func7 rfl rfl ?_
  intro Xh
  refine TC.seq ?_
  refine TC.region ?_
  refine TL.val rfl rfl rfl (Y.assign rfl rfl) ?_
  refine TL.nil ?_
  refine TQ.next ?_
  refine TC.seq ?_
  refine TC.seq ?_
  refine TC.region ?_
  refine TL.eff rfl rfl rfl (X.call rfl Try.func8 (by kernel_rfl) rfl rfl (awake_fn _)) ?_
  rintro _ _ ⟨rfl, rfl⟩
  refine TL.val rfl rfl rfl (Y.not rfl rfl) ?_
  refine TL.nil ?_
  refine TQ.next ?_
  refine TC.cond_f rfl ?_
  refine TC.skip ?_
  refine TQ.next ?_
  refine TC.seq ?_
  refine TC.region ?_
  refine TL.eff rfl rfl rfl (X.lit rfl el22 rfl rfl rfl (by decide) rfl) ?_
  rintro _ _ ⟨g9, rfl, rfl⟩
  refine TL.val rfl rfl rfl (Y.move rfl rfl) ?_
  refine TL.eff rfl rfl rfl (X.appendS rfl el22 rfl (by first | (with_reducible (repeat first | exact Pull.here | apply Pull.there); done) | (repeat first | exact Pull.here | apply Pull.there)) rfl (by first | exact Src.owns Try.underlying22 (by with_reducible (repeat first | exact In.here | apply In.there)) | exact Src.rds Try.underlying22 (by with_reducible (repeat first | exact In.here | apply In.there)) | exact Src.reads (by assumption) Try.underlying22 (by with_reducible (repeat first | exact In.here | apply In.there))) (by simp only [maxLen]; omega) (by omega)) ?_
  rintro _ _ ⟨a11, c11, rfl, rfl⟩
  refine TL.eff rfl rfl rfl (X.lit rfl el22 rfl rfl rfl (by decide) rfl) ?_
  rintro _ _ ⟨g12, rfl, rfl⟩
  refine TL.eff rfl rfl rfl (X.appendS rfl el22 rfl (by first | (with_reducible (repeat first | exact Pull.here | apply Pull.there); done) | (repeat first | exact Pull.here | apply Pull.there)) rfl (by first | exact Src.owns Try.underlying22 (by with_reducible (repeat first | exact In.here | apply In.there)) | exact Src.rds Try.underlying22 (by with_reducible (repeat first | exact In.here | apply In.there)) | exact Src.reads (by assumption) Try.underlying22 (by with_reducible (repeat first | exact In.here | apply In.there))) (by simp only [maxLen]; omega) (by omega)) ?_
  rintro _ _ ⟨a13, c13, rfl, rfl⟩
  refine TL.eff rfl rfl rfl (X.lit rfl el22 rfl rfl rfl (by decide) rfl) ?_
  rintro _ _ ⟨g14, rfl, rfl⟩
  refine TL.val rfl rfl rfl (Y.move rfl rfl) ?_
  refine TL.eff rfl rfl rfl (X.appendS rfl el22 rfl (by first | (with_reducible (repeat first | exact Pull.here | apply Pull.there); done) | (repeat first | exact Pull.here | apply Pull.there)) rfl (by first | exact Src.owns Try.underlying22 (by with_reducible (repeat first | exact In.here | apply In.there)) | exact Src.rds Try.underlying22 (by with_reducible (repeat first | exact In.here | apply In.there)) | exact Src.reads (by assumption) Try.underlying22 (by with_reducible (repeat first | exact In.here | apply In.there))) (by simp only [maxLen]; omega) (by omega)) ?_
  rintro _ _ ⟨a16, c16, rfl, rfl⟩
  refine TL.eff rfl rfl rfl (X.lit rfl el22 rfl rfl rfl (by decide) rfl) ?_
  rintro _ _ ⟨g17, rfl, rfl⟩
  refine TL.eff rfl rfl rfl (X.appendS rfl el22 rfl (by first | (with_reducible (repeat first | exact Pull.here | apply Pull.there); done) | (repeat first | exact Pull.here | apply Pull.there)) rfl (by first | exact Src.owns Try.underlying22 (by with_reducible (repeat first | exact In.here | apply In.there)) | exact Src.rds Try.underlying22 (by with_reducible (repeat first | exact In.here | apply In.there)) | exact Src.reads (by assumption) Try.underlying22 (by with_reducible (repeat first | exact In.here | apply In.there))) (by simp only [maxLen]; omega) (by omega)) ?_
  rintro _ _ ⟨a18, c18, rfl, rfl⟩
  refine TL.val rfl rfl rfl (Y.assign rfl rfl) ?_
  refine TL.val rfl rfl rfl (Y.assign rfl rfl) ?_
  refine TL.nil ?_
  refine TQ.next ?_
  refine TC.seq ?_
  refine TC.know (owns_some (n := 0 + xs.length + 1) (a := a13) (by with_reducible (repeat first | exact In.here | apply In.there)) (by omega)) ?_
  rintro ⟨h13, o13, rfl⟩
  refine TC.know (owns_some (n := 0 + ys.length + 1) (a := a18) (by with_reducible (repeat first | exact In.here | apply In.there)) (by omega)) ?_
  rintro ⟨h18, o18, rfl⟩
  refine TC.know (owns_cap (n := 0 + xs.length + 1) (a := some ⟨h13, o13, none⟩) (by with_reducible (repeat first | exact In.here | apply In.there))) ?_
  rintro ⟨q1, q2, -⟩
  refine TC.know (owns_cap (n := 0 + ys.length + 1) (a := some ⟨h18, o18, none⟩) (by with_reducible (repeat first | exact In.here | apply In.there))) ?_
  rintro ⟨q3, q4, -⟩
  refine TC.to ((Pull.ent (A := SA.owns 5 1 (.slice (some ⟨h13, o13, none⟩) (0 + xs.length + 1) c13) (0 + xs.length + 1) (([] : List Value) ++ xs.map v8 ++ [v8 77])) (by first | (with_reducible (repeat first | exact Pull.here | apply Pull.there); done) | (repeat first | exact Pull.here | apply Pull.there))).trans (Ent.shorts xs 77)) ?_
  refine TC.to ((Pull.ent (A := SA.owns 5 1 (.slice (some ⟨h18, o18, none⟩) (0 + ys.length + 1) c18) (0 + ys.length + 1) (([] : List Value) ++ ys.map v8 ++ [v8 78])) (by first | (with_reducible (repeat first | exact Pull.here | apply Pull.there); done) | (repeat first | exact Pull.here | apply Pull.there))).trans (Ent.shorts ys 78)) ?_
  rw [Nat.zero_add, Nat.zero_add]
  refine TC.region ?_
  refine TL.val rfl rfl rfl (Y.move rfl rfl) ?_
  refine TL.val rfl rfl rfl (Y.move rfl rfl) ?_
  refine TL.val rfl rfl rfl (Y.len rfl Try.underlying22 rfl) ?_
  refine TL.val rfl rfl rfl (Y.sliceHi2 rfl Try.underlying22 sz5 rfl rfl (by omega)) ?_
  refine TL.eff rfl rfl rfl (X.call rfl Try.func9 (by kernel_rfl) rfl rfl (Fn.pre (Sum_fn _ _ _ xs rfl (by omega) _) (Ent.cons (by first | (with_reducible (repeat first | exact Pull.here | apply Pull.there); done) | (repeat first | exact Pull.here | apply Pull.there)) Ent.refl))) ?_
  rintro _ _ ⟨rfl, rfl⟩
  refine TL.nil ?_
  refine TQ.next ?_
  refine TC.seq ?_
  refine TC.region ?_
  refine TL.val rfl rfl rfl (Y.move rfl rfl) ?_
  refine TL.val rfl rfl rfl (Y.move rfl rfl) ?_
  refine TL.val rfl rfl rfl (Y.len rfl Try.underlying22 rfl) ?_
  refine TL.val rfl rfl rfl (Y.sliceHi2 rfl Try.underlying22 sz5 rfl rfl (by omega)) ?_
  refine TL.eff rfl rfl rfl (X.call rfl Try.func11 (by kernel_rfl) rfl rfl (Fn.pre (crc_fn (SA.rds 1 (.slice (some ⟨h13, o13, none⟩) xs.length c13) xs.length (xs.map v8)) _ _ _ xs Reads.rds rfl _) (Ent.cons (by first | (with_reducible (repeat first | exact Pull.here | apply Pull.there); done) | (repeat first | exact Pull.here | apply Pull.there)) Ent.refl))) ?_
  rintro _ _ ⟨rfl, rfl⟩
  refine TL.nil ?_
  refine TQ.next ?_
  refine TC.seq ?_
  refine TC.draws 8 _ (by kernel_rfl) (by kernel_rfl) (fun _ h => h) ?_
  refine TA.takeP 0 rfl rfl rfl rfl (by kernel_rfl) (by kernel_rfl) (by kernel_rfl) rfl (fun _ _ _ h => h) (Y.move rfl rfl) ?_
  refine TA.takeP 1 rfl rfl rfl rfl (by kernel_rfl) (by kernel_rfl) (by kernel_rfl) rfl (fun _ _ _ h => h) (Y.move rfl rfl) ?_
  refine TA.takeP 2 rfl rfl rfl rfl (by kernel_rfl) (by kernel_rfl) (by kernel_rfl) rfl (fun _ _ _ h => h) (Y.len rfl Try.underlying22 rfl) ?_
  refine TA.take 3 rfl rfl rfl rfl (by kernel_rfl) (by kernel_rfl) (by kernel_rfl) rfl (by kernel_rfl) (by kernel_rfl) (fun _ _ _ h => h) (Y.sliceHi2 rfl Try.underlying22 sz5 rfl rfl (by omega)) ?_
  refine TA.takeP 4 rfl rfl rfl rfl (by kernel_rfl) (by kernel_rfl) (by kernel_rfl) rfl (fun _ _ _ h => h) (Y.move rfl rfl) ?_
  refine TA.takeP 5 rfl rfl rfl rfl (by kernel_rfl) (by kernel_rfl) (by kernel_rfl) rfl (fun _ _ _ h => h) (Y.move rfl rfl) ?_
  refine TA.takeP 6 rfl rfl rfl rfl (by kernel_rfl) (by kernel_rfl) (by kernel_rfl) rfl (fun _ _ _ h => h) (Y.len rfl Try.underlying22 rfl) ?_
  refine TA.take 7 rfl rfl rfl rfl (by kernel_rfl) (by kernel_rfl) (by kernel_rfl) rfl (by kernel_rfl) (by kernel_rfl) (fun _ _ _ h => h) (Y.sliceHi2 rfl Try.underlying22 sz5 rfl rfl (by omega)) ?_
  refine TA.one 8 (by kernel_rfl) rfl rfl rfl rfl (X.call rfl Try.func13 (by kernel_rfl) rfl rfl (Fn.pre (mac_fn _ _ _ ys rfl _ _ _ xs rfl (by omega) (by omega) _) (Ent.cons (by first | (with_reducible (repeat first | exact Pull.here | apply Pull.there); done) | (repeat first | exact Pull.here | apply Pull.there)) (Ent.cons (by first | (with_reducible (repeat first | exact Pull.here | apply Pull.there); done) | (repeat first | exact Pull.here | apply Pull.there)) Ent.refl)))) ?_
  rintro _ _ ⟨rfl, rfl⟩
  refine ⟨(Or.inl (by kernel_rfl)), ?_⟩
  refine TA.done (by kernel_rfl) ?_
  refine TQ.next ?_
  refine TC.seq ?_
  refine TC.draws 35 _ (by kernel_rfl) (by kernel_rfl) (fun _ h => h) ?_
  refine TA.take 0 rfl rfl rfl rfl (by kernel_rfl) (by kernel_rfl) (by kernel_rfl) rfl (by kernel_rfl) (by kernel_rfl) (fun _ _ _ h => h) (Y.move rfl rfl) ?_
  refine TA.take 1 rfl rfl rfl rfl (by kernel_rfl) (by kernel_rfl) (by kernel_rfl) rfl (by kernel_rfl) (by kernel_rfl) (fun _ _ _ h => h) (Y.move rfl rfl) ?_
  refine TA.take 2 rfl rfl rfl rfl (by kernel_rfl) (by kernel_rfl) (by kernel_rfl) rfl (by kernel_rfl) (by kernel_rfl) (fun _ _ _ h => h) (Y.len rfl Try.underlying22 rfl) ?_
  refine TA.take 3 rfl rfl rfl rfl (by kernel_rfl) (by kernel_rfl) (by kernel_rfl) rfl (by kernel_rfl) (by kernel_rfl) (fun _ _ _ h => h) (Y.sliceHi2 rfl Try.underlying22 sz5 rfl rfl (by omega)) ?_
  refine TA.take 4 rfl rfl rfl rfl (by kernel_rfl) (by kernel_rfl) (by kernel_rfl) rfl (by kernel_rfl) (by kernel_rfl) (fun _ _ _ h => h) (by first | exact Y.str rfl Try.underlying22 Try.underlying9 Try.underlying5 rfl Reads.rds (by with_reducible (repeat first | exact In.here | apply In.there)) | exact Y.str rfl Try.underlying22 Try.underlying9 Try.underlying5 rfl Reads.owns (by with_reducible (repeat first | exact In.here | apply In.there)) | exact Y.str rfl Try.underlying22 Try.underlying9 Try.underlying5 rfl (by assumption) (by with_reducible (repeat first | exact In.here | apply In.there))) ?_
  refine TA.take 5 rfl rfl rfl rfl (by kernel_rfl) (by kernel_rfl) (by kernel_rfl) rfl (by kernel_rfl) (by kernel_rfl) (fun _ _ _ h => h) (Y.move rfl rfl) ?_
  refine TA.take 6 rfl rfl rfl rfl (by kernel_rfl) (by kernel_rfl) (by kernel_rfl) rfl (by kernel_rfl) (by kernel_rfl) (fun _ _ _ h => h) (by first | exact Y.str rfl Try.underlying22 Try.underlying9 Try.underlying5 rfl Reads.rds (by with_reducible (repeat first | exact In.here | apply In.there)) | exact Y.str rfl Try.underlying22 Try.underlying9 Try.underlying5 rfl Reads.owns (by with_reducible (repeat first | exact In.here | apply In.there)) | exact Y.str rfl Try.underlying22 Try.underlying9 Try.underlying5 rfl (by assumption) (by with_reducible (repeat first | exact In.here | apply In.there))) ?_
  refine TA.take 7 rfl rfl rfl rfl (by kernel_rfl) (by kernel_rfl) (by kernel_rfl) rfl (by kernel_rfl) (by kernel_rfl) (fun _ _ _ h => h) (Y.eqStr rfl rfl rfl) ?_
  rw [show decide (xs = xs) = true from decide_eq_true rfl]
  refine TA.take 8 rfl rfl rfl rfl (by kernel_rfl) (by kernel_rfl) (by kernel_rfl) rfl (by kernel_rfl) (by kernel_rfl) (fun _ _ _ h => h) (Y.move rfl rfl) ?_
  refine TA.take 9 rfl rfl rfl rfl (by kernel_rfl) (by kernel_rfl) (by kernel_rfl) rfl (by kernel_rfl) (by kernel_rfl) (fun _ _ _ h => h) (Y.move rfl rfl) ?_
  refine TA.take 10 rfl rfl rfl rfl (by kernel_rfl) (by kernel_rfl) (by kernel_rfl) rfl (by kernel_rfl) (by kernel_rfl) (fun _ _ _ h => h) (Y.move rfl rfl) ?_
  refine TA.take 11 rfl rfl rfl rfl (by kernel_rfl) (by kernel_rfl) (by kernel_rfl) rfl (by kernel_rfl) (by kernel_rfl) (fun _ _ _ h => h) (Y.len rfl Try.underlying22 rfl) ?_
  refine TA.take 12 rfl rfl rfl rfl (by kernel_rfl) (by kernel_rfl) (by kernel_rfl) rfl (by kernel_rfl) (by kernel_rfl) (fun _ _ _ h => h) (by first | exact Y.indexSlB rfl sl22 rfl rfl (by omega) (by ((try simp only [Nat.zero_add, Nat.add_zero, Nat.mul_one, Nat.one_mul, Nat.mul_zero, Nat.zero_mul]) <;> rfl)) | exact Y.indexSl rfl sl22 rfl rfl (by omega) (by ((try simp only [Nat.zero_add, Nat.add_zero, Nat.mul_one, Nat.one_mul, Nat.mul_zero, Nat.zero_mul]) <;> rfl))) ?_
  refine TA.take 13 rfl rfl rfl rfl (by kernel_rfl) (by kernel_rfl) (by kernel_rfl) rfl (by kernel_rfl) (by kernel_rfl) (fun _ _ _ h => h) (Y.load rfl sc5 rfl (Cel.rdsB (n := xs.length + 1) (by with_reducible (repeat first | exact In.here | apply In.there)) (getML (d := (0 : UInt8)) (by simp)))) ?_
  refine TA.take 14 rfl rfl rfl rfl (by kernel_rfl) (by kernel_rfl) (by kernel_rfl) rfl (by kernel_rfl) (by kernel_rfl) (fun _ _ _ h => h) (Y.bin rfl rfl rfl (br_eq8 (y := 77))) ?_
  rw [last_at, show ((77 : UInt8) == 77) = true from rfl]
  refine TA.take 15 rfl rfl rfl rfl (by kernel_rfl) (by kernel_rfl) (by kernel_rfl) rfl (by kernel_rfl) (by kernel_rfl) (fun _ _ _ h => h) (Y.pick_t rfl rfl rfl) ?_
  refine TA.take 16 rfl rfl rfl rfl (by kernel_rfl) (by kernel_rfl) (by kernel_rfl) rfl (by kernel_rfl) (by kernel_rfl) (fun _ _ _ h => h) (Y.move rfl rfl) ?_
  refine TA.take 17 rfl rfl rfl rfl (by kernel_rfl) (by kernel_rfl) (by kernel_rfl) rfl (by kernel_rfl) (by kernel_rfl) (fun _ _ _ h => h) (Y.move rfl rfl) ?_
  refine TA.take 18 rfl rfl rfl rfl (by kernel_rfl) (by kernel_rfl) (by kernel_rfl) rfl (by kernel_rfl) (by kernel_rfl) (fun _ _ _ h => h) (Y.move rfl rfl) ?_
  refine TA.take 19 rfl rfl rfl rfl (by kernel_rfl) (by kernel_rfl) (by kernel_rfl) rfl (by kernel_rfl) (by kernel_rfl) (fun _ _ _ h => h) (Y.len rfl Try.underlying22 rfl) ?_
  refine TA.take 20 rfl rfl rfl rfl (by kernel_rfl) (by kernel_rfl) (by kernel_rfl) rfl (by kernel_rfl) (by kernel_rfl) (fun _ _ _ h => h) (Y.sliceHi2 rfl Try.underlying22 sz5 rfl rfl (by omega)) ?_
  refine TA.take 21 rfl rfl rfl rfl (by kernel_rfl) (by kernel_rfl) (by kernel_rfl) rfl (by kernel_rfl) (by kernel_rfl) (fun _ _ _ h => h) (by first | exact Y.str rfl Try.underlying22 Try.underlying9 Try.underlying5 rfl Reads.rds (by with_reducible (repeat first | exact In.here | apply In.there)) | exact Y.str rfl Try.underlying22 Try.underlying9 Try.underlying5 rfl Reads.owns (by with_reducible (repeat first | exact In.here | apply In.there)) | exact Y.str rfl Try.underlying22 Try.underlying9 Try.underlying5 rfl (by assumption) (by with_reducible (repeat first | exact In.here | apply In.there))) ?_
  refine TA.take 22 rfl rfl rfl rfl (by kernel_rfl) (by kernel_rfl) (by kernel_rfl) rfl (by kernel_rfl) (by kernel_rfl) (fun _ _ _ h => h) (Y.move rfl rfl) ?_
  refine TA.take 23 rfl rfl rfl rfl (by kernel_rfl) (by kernel_rfl) (by kernel_rfl) rfl (by kernel_rfl) (by kernel_rfl) (fun _ _ _ h => h) (by first | exact Y.str rfl Try.underlying22 Try.underlying9 Try.underlying5 rfl Reads.rds (by with_reducible (repeat first | exact In.here | apply In.there)) | exact Y.str rfl Try.underlying22 Try.underlying9 Try.underlying5 rfl Reads.owns (by with_reducible (repeat first | exact In.here | apply In.there)) | exact Y.str rfl Try.underlying22 Try.underlying9 Try.underlying5 rfl (by assumption) (by with_reducible (repeat first | exact In.here | apply In.there))) ?_
  refine TA.take 24 rfl rfl rfl rfl (by kernel_rfl) (by kernel_rfl) (by kernel_rfl) rfl (by kernel_rfl) (by kernel_rfl) (fun _ _ _ h => h) (Y.eqStr rfl rfl rfl) ?_
  rw [show decide (ys = ys) = true from decide_eq_true rfl]
  refine TA.take 25 rfl rfl rfl rfl (by kernel_rfl) (by kernel_rfl) (by kernel_rfl) rfl (by kernel_rfl) (by kernel_rfl) (fun _ _ _ h => h) (Y.pick_t rfl rfl rfl) ?_
  refine TA.take 26 rfl rfl rfl rfl (by kernel_rfl) (by kernel_rfl) (by kernel_rfl) rfl (by kernel_rfl) (by kernel_rfl) (fun _ _ _ h => h) (Y.move rfl rfl) ?_
  refine TA.take 27 rfl rfl rfl rfl (by kernel_rfl) (by kernel_rfl) (by kernel_rfl) rfl (by kernel_rfl) (by kernel_rfl) (fun _ _ _ h => h) (Y.move rfl rfl) ?_
  refine TA.take 28 rfl rfl rfl rfl (by kernel_rfl) (by kernel_rfl) (by kernel_rfl) rfl (by kernel_rfl) (by kernel_rfl) (fun _ _ _ h => h) (Y.move rfl rfl) ?_
  refine TA.take 29 rfl rfl rfl rfl (by kernel_rfl) (by kernel_rfl) (by kernel_rfl) rfl (by kernel_rfl) (by kernel_rfl) (fun _ _ _ h => h) (Y.len rfl Try.underlying22 rfl) ?_
  refine TA.take 30 rfl rfl rfl rfl (by kernel_rfl) (by kernel_rfl) (by kernel_rfl) rfl (by kernel_rfl) (by kernel_rfl) (fun _ _ _ h => h) (by first | exact Y.indexSlB rfl sl22 rfl rfl (by omega) (by ((try simp only [Nat.zero_add, Nat.add_zero, Nat.mul_one, Nat.one_mul, Nat.mul_zero, Nat.zero_mul]) <;> rfl)) | exact Y.indexSl rfl sl22 rfl rfl (by omega) (by ((try simp only [Nat.zero_add, Nat.add_zero, Nat.mul_one, Nat.one_mul, Nat.mul_zero, Nat.zero_mul]) <;> rfl))) ?_
  refine TA.take 31 rfl rfl rfl rfl (by kernel_rfl) (by kernel_rfl) (by kernel_rfl) rfl (by kernel_rfl) (by kernel_rfl) (fun _ _ _ h => h) (Y.load rfl sc5 rfl (Cel.rdsB (n := ys.length + 1) (by with_reducible (repeat first | exact In.here | apply In.there)) (getML (d := (0 : UInt8)) (by simp)))) ?_
  refine TA.take 32 rfl rfl rfl rfl (by kernel_rfl) (by kernel_rfl) (by kernel_rfl) rfl (by kernel_rfl) (by kernel_rfl) (fun _ _ _ h => h) (Y.bin rfl rfl rfl (br_eq8 (y := 78))) ?_
  rw [last_at, show ((78 : UInt8) == 78) = true from rfl]
  refine TA.take 33 rfl rfl rfl rfl (by kernel_rfl) (by kernel_rfl) (by kernel_rfl) rfl (by kernel_rfl) (by kernel_rfl) (fun _ _ _ h => h) (Y.pick_t rfl rfl rfl) ?_
  refine TA.take 34 rfl rfl rfl rfl (by kernel_rfl) (by kernel_rfl) (by kernel_rfl) rfl (by kernel_rfl) (by kernel_rfl) (fun _ _ _ h => h) (Y.assign rfl rfl) ?_
  refine TA.done (by kernel_rfl) ?_
  refine TQ.next ?_
  refine TC.ret ?_
  refine TQ.retE (res1 rfl rfl) (⟨rfl, rfl⟩) ?_
  exact (by (repeat first | (with_reducible exact Ent.refl) | (with_reducible exact Ent.nil) | refine Ent.cons (by first | (with_reducible (repeat first | exact Pull.here | apply Pull.there); done) | (repeat first | exact Pull.here | apply Pull.there)) ?_ | refine Ent.skip ?_))
end sha
end Go.Proofs.Ytdffafhfpfipaaa
