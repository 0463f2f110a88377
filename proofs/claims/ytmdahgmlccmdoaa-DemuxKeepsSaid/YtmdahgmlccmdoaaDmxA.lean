/- demux: 'awake', and the statement that guesses latch nothing. -/
import Derived.Test.YtmdahgmlccmdoaaDmxP
namespace Go.Proofs.Ytmdahgmlccmdoaa
set_option linter.unusedVariables false
set_option linter.unusedSimpArgs false
open Go.RowKit
namespace dm
namespace FxDmxA
set_option maxRecDepth 100000
theorem el47 : Elt Try.prog 47 3 1 8 (.int .i64 0) := ⟨Try.underlying47, by kernel_rfl, rfl, by decide, by simp [Value.cells, Value.oneCell']⟩
theorem pl39 : Program.places Try.prog 39 = some [(0, 1), (1, 1), (2, 1), (3, 1), (4, 1), (5, 1), (6, 1), (7, 1), (8, 1)] := by kernel_rfl
theorem pl50 : Program.places Try.prog 50 = some [(0, 1), (1, 1), (2, 1), (3, 1)] := by kernel_rfl
theorem zc39 : Program.zeroC Try.prog 39 = some #[.bool false, .int .i64 0, .int .u16 0, .int .u32 0, .int .u32 0, .slice none 0 0, .slice none 0 0, .slice none 0 0, .int .i64 0] := by kernel_rfl
theorem zc50 : Program.zeroC Try.prog 50 = some #[.string .empty, .slice none 0 0, .slice none 0 0, .slice none 0 0] := by kernel_rfl
end FxDmxA
open FxDmxA
theorem aw (a b : Option Addr) (c d : Nat) : gs [((.empty, ⟨a, c, [1]⟩, ⟨none, 0, []⟩, ⟨none, 0, []⟩) : LnD), (.empty, ⟨b, d, [2]⟩, ⟨none, 0, []⟩, ⟨none, 0, []⟩)] 0 0 [] 2 5 [] = (1, .empty, 0) := by rfl
theorem aw2 : rt (1, .empty, 0) [] 5 = [(5, (1, .empty))] := by rfl
--REG rostrum/rostrumlaw15.awake : _ _ ⟨rfl, rfl⟩ => (dm.awake_fn _)
theorem awake_fn (L : List SA) : Fn Try.prog 7 [] L (fun v L' => v = .bool true ∧ L' = L) := by
  refine Fn.of (N := 29) Try.func7 rfl rfl ?_
  intro Xh
  refine TC.seq ?_
  refine TC.region ?_
  refine TL.val rfl rfl rfl (Y.assign rfl rfl) ?_
  refine TL.nil ?_
  refine TQ.next ?_
  refine TC.seq ?_
  refine TC.region ?_
  refine TL.eff rfl rfl rfl (X.lit rfl el47 rfl rfl rfl (by decide) rfl) ?_
  rintro _ _ ⟨g5, rfl, rfl⟩
  refine TL.val rfl rfl rfl (Y.buildS (cells := #[vS .empty, .slice (some ⟨g5, 0, none⟩) 1 1, .slice none 0 0, .slice none 0 0]) rfl rfl pl50 zc50 (by kernel_rfl)) ?_
  refine TL.eff rfl rfl rfl (X.lit rfl el47 rfl rfl rfl (by decide) rfl) ?_
  rintro _ _ ⟨g7, rfl, rfl⟩
  refine TL.val rfl rfl rfl (Y.buildS (cells := #[vS .empty, .slice (some ⟨g7, 0, none⟩) 1 1, .slice none 0 0, .slice none 0 0]) rfl rfl pl50 zc50 (by kernel_rfl)) ?_
  refine TL.eff rfl rfl rfl (X.litA (sz := 4) (bytes := 0) (z := .nilFunc) (vs := [.agg #[vS .empty, .slice (some ⟨g5, 0, none⟩) 1 1, .slice none 0 0, .slice none 0 0], .agg #[vS .empty, .slice (some ⟨g7, 0, none⟩) 1 1, .slice none 0 0, .slice none 0 0]]) (cells := Dat.cs ([((.empty, ⟨some ⟨g5, 0, none⟩, 1, [1]⟩, ⟨none, 0, []⟩, ⟨none, 0, []⟩) : LnD), ((.empty, ⟨some ⟨g7, 0, none⟩, 1, [2]⟩, ⟨none, 0, []⟩, ⟨none, 0, []⟩) : LnD)] : List LnD)) rfl Try.underlying27 (by kernel_rfl) rfl rfl rfl (by decide) (by decide) (by decide) rfl rfl rfl) ?_
  rintro _ _ ⟨g9, rfl, rfl⟩
  refine TL.to (Ent.nilOwn 34 1) ?_
  refine TL.to (Ent.nilOwn 9 1) ?_
  refine TL.to (Ent.line (mid := .empty) (ty := ⟨some ⟨g5, 0, none⟩, 1, [1]⟩) (so := ⟨none, 0, []⟩) (ri := ⟨none, 0, []⟩) (by first | (with_reducible (repeat first | apply Pull.here | apply Pull.there); done) | (repeat first | apply Pull.here | apply Pull.there)) (by first | (with_reducible (repeat first | apply Pull.here | apply Pull.there); done) | (repeat first | apply Pull.here | apply Pull.there)) (by first | (with_reducible (repeat first | apply Pull.here | apply Pull.there); done) | (repeat first | apply Pull.here | apply Pull.there))) ?_
  refine TL.to (Ent.nilOwn 34 1) ?_
  refine TL.to (Ent.nilOwn 9 1) ?_
  refine TL.to (Ent.line (mid := .empty) (ty := ⟨some ⟨g7, 0, none⟩, 1, [2]⟩) (so := ⟨none, 0, []⟩) (ri := ⟨none, 0, []⟩) (by first | (with_reducible (repeat first | apply Pull.here | apply Pull.there); done) | (repeat first | apply Pull.here | apply Pull.there)) (by first | (with_reducible (repeat first | apply Pull.here | apply Pull.there); done) | (repeat first | apply Pull.here | apply Pull.there)) (by first | (with_reducible (repeat first | apply Pull.here | apply Pull.there); done) | (repeat first | apply Pull.here | apply Pull.there))) ?_
  refine TL.to Ent.rdss0 ?_
  refine TL.to (Ent.addEl (ys := ([] : List LnD)) (x := ((.empty, ⟨some ⟨g5, 0, none⟩, 1, [1]⟩, ⟨none, 0, []⟩, ⟨none, 0, []⟩) : LnD)) (by first | (with_reducible (repeat first | apply Pull.here | apply Pull.there); done) | (repeat first | apply Pull.here | apply Pull.there)) (by first | (with_reducible (repeat first | apply Pull.here | apply Pull.there); done) | (repeat first | apply Pull.here | apply Pull.there))) ?_
  refine TL.to (Ent.addEl (ys := [((.empty, ⟨some ⟨g5, 0, none⟩, 1, [1]⟩, ⟨none, 0, []⟩, ⟨none, 0, []⟩) : LnD)]) (x := ((.empty, ⟨some ⟨g7, 0, none⟩, 1, [2]⟩, ⟨none, 0, []⟩, ⟨none, 0, []⟩) : LnD)) (by first | (with_reducible (repeat first | apply Pull.here | apply Pull.there); done) | (repeat first | apply Pull.here | apply Pull.there)) (by first | (with_reducible (repeat first | apply Pull.here | apply Pull.there); done) | (repeat first | apply Pull.here | apply Pull.there))) ?_
  refine TL.to (Ent.mkOwn (l := [((.empty, ⟨some ⟨g5, 0, none⟩, 1, [1]⟩, ⟨none, 0, []⟩, ⟨none, 0, []⟩) : LnD), ((.empty, ⟨some ⟨g7, 0, none⟩, 1, [2]⟩, ⟨none, 0, []⟩, ⟨none, 0, []⟩) : LnD)]) (by first | (with_reducible (repeat first | apply Pull.here | apply Pull.there); done) | (repeat first | apply Pull.here | apply Pull.there)) (by first | (with_reducible (repeat first | apply Pull.here | apply Pull.there); done) | (repeat first | apply Pull.here | apply Pull.there)) rfl rfl rfl) ?_
  refine TL.eff rfl rfl rfl (X.call rfl Try.func8 (by kernel_rfl) rfl rfl (Fn.preE (by repeat first | (with_reducible apply Ent.refl) | (apply Ent.cons; case h => first | (with_reducible (repeat first | apply Pull.here | apply Pull.there); done) | (repeat first | apply Pull.here | apply Pull.there))) (New_fn (some ⟨g9, 0, none⟩) 2 [((.empty, ⟨some ⟨g5, 0, none⟩, 1, [1]⟩, ⟨none, 0, []⟩, ⟨none, 0, []⟩) : LnD), ((.empty, ⟨some ⟨g7, 0, none⟩, 1, [2]⟩, ⟨none, 0, []⟩, ⟨none, 0, []⟩) : LnD)] (by simp) (fun x hx => by simp at hx; rcases hx with rfl | rfl <;> simp) 0 0 _))) ?_
  rintro _ _ ⟨rb, la, lc, ls', tb, rfl, hlp, rfl⟩
  refine TL.val rfl rfl rfl (Y.assign rfl rfl) ?_
  refine TL.nil ?_
  refine TQ.next ?_
  refine TC.seq ?_
  refine TC.to (Ent.nilOwn 75 2) ?_
  refine TC.to Ent.rdss0 ?_
  refine TC.to (Ent.mkOwn (l := ([] : List XD)) (a := none) (cap := 0) (by first | (with_reducible (repeat first | apply Pull.here | apply Pull.there); done) | (repeat first | apply Pull.here | apply Pull.there)) (by first | (with_reducible (repeat first | apply Pull.here | apply Pull.there); done) | (repeat first | apply Pull.here | apply Pull.there)) rfl rfl rfl) ?_
  refine TC.region ?_
  refine TL.val rfl rfl rfl (Y.move rfl rfl) ?_
  refine TL.val rfl rfl rfl (Y.buildS (cells := PT 2 0 5 (.slice none 0 0)) rfl rfl pl39 zc39 (by kernel_rfl)) ?_
  refine TL.eff rfl rfl rfl (X.call rfl Try.func13 (by kernel_rfl) rfl rfl (Fn.preE (by repeat first | (with_reducible apply Ent.refl) | (apply Ent.cons; case h => first | (with_reducible (repeat first | apply Pull.here | apply Pull.there); done) | (repeat first | apply Pull.here | apply Pull.there))) (Route_fn rb la lc ls' 0 0 tb [] (fun _ h => by cases h) (by decide) 2 0 5 none 0 [] (fun _ h => by cases h) _))) ?_
  rintro _ _ ⟨rfl, rfl⟩
  rw [gs_congr hlp, aw, aw2]
  refine TL.val rfl rfl rfl (Y.move rfl rfl) ?_
  refine TL.val rfl rfl rfl (Y.extract rfl rfl rfl) ?_
  refine TL.as (vI 1) (by rfl) ?_
  refine TL.val rfl rfl rfl (Y.extract rfl rfl rfl) ?_
  refine TL.val rfl rfl rfl (Y.extract rfl rfl rfl) ?_
  refine TL.as (vI 0) (by rfl) ?_
  refine TL.val rfl rfl rfl (Y.assign rfl rfl) ?_
  refine TL.val rfl rfl rfl (Y.assign rfl rfl) ?_
  refine TL.val rfl rfl rfl (Y.assign rfl rfl) ?_
  refine TL.nil ?_
  refine TQ.next ?_
  refine TC.seq ?_
  refine TC.region ?_
  refine TL.val rfl rfl rfl (Y.move rfl rfl) ?_
  refine TL.val rfl rfl rfl (Y.bin rfl rfl rfl (br_eqI (n := 1))) ?_
  refine TL.is true (by first | rfl | (simp only [decide_eq_true_eq, decide_eq_false_iff_not, Bool.not_eq_true', Bool.not_eq_false', Bool.not_eq_eq_eq_not, Bool.not_true, Bool.not_false, Nat.not_lt, Nat.not_le]; omega) | (simp [*]; done) | (simp; omega)) ?_
  refine TL.val rfl rfl rfl (Y.move rfl rfl) ?_
  refine TL.valG rfl rfl rfl (Y.move rfl rfl) ?_
  refine TL.valG rfl rfl rfl (Y.bin rfl rfl rfl (br_eqI (n := 0))) ?_
  refine TL.is true (by first | rfl | (simp only [decide_eq_true_eq, decide_eq_false_iff_not, Bool.not_eq_true', Bool.not_eq_false', Bool.not_eq_eq_eq_not, Bool.not_true, Bool.not_false, Nat.not_lt, Nat.not_le]; omega) | (simp [*]; done) | (simp; omega)) ?_
  refine TL.val rfl rfl rfl (Y.pick_t rfl rfl rfl) ?_
  refine TL.val rfl rfl rfl (Y.move rfl rfl) ?_
  refine TL.valG rfl rfl rfl (Y.move rfl rfl) ?_
  refine TL.effG rfl rfl rfl (X.call rfl Try.func10 (by kernel_rfl) rfl rfl (Fn.preE (by repeat first | (with_reducible apply Ent.refl) | (apply Ent.cons; case h => first | (with_reducible (repeat first | apply Pull.here | apply Pull.there); done) | (repeat first | apply Pull.here | apply Pull.there))) (dm.Latched_fn _ _ _ _ _ _ _ _ _))) ?_
  rintro _ _ ⟨rfl, rfl⟩
  refine TL.valG rfl rfl rfl (Y.bin rfl rfl rfl (br_eqN (n := 1))) ?_
  refine TL.is true (by first | rfl | (simp only [decide_eq_true_eq, decide_eq_false_iff_not, Bool.not_eq_true', Bool.not_eq_false', Bool.not_eq_eq_eq_not, Bool.not_true, Bool.not_false, Nat.not_lt, Nat.not_le]; omega) | (simp [*]; done) | (simp; omega)) ?_
  refine TL.val rfl rfl rfl (Y.pick_t rfl rfl rfl) ?_
  refine TL.is true (by first | rfl | (simp only [decide_eq_true_eq, decide_eq_false_iff_not, Bool.not_eq_true', Bool.not_eq_false', Bool.not_eq_eq_eq_not, Bool.not_true, Bool.not_false, Nat.not_lt, Nat.not_le]; omega) | (simp [*]; done) | (simp; omega)) ?_
  refine TL.val rfl rfl rfl (Y.assign rfl rfl) ?_
  refine TL.nil ?_
  refine TQ.next ?_
  refine TC.ret ?_
  refine TQ.retE (res1 rfl rfl) (⟨rfl, rfl⟩) ?_
  exact (by (repeat first | (with_reducible apply Ent.refl) | (with_reducible apply Ent.nil) | refine Ent.cons (by first | (with_reducible (repeat first | apply Pull.here | apply Pull.there); done) | (repeat first | apply Pull.here | apply Pull.there)) ?_ | refine Ent.skip ?_))
end dm
end Go.Proofs.Ytmdahgmlccmdoaa
