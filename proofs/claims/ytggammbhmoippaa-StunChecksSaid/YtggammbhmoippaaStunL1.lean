/- awake; the statement StunBuilds, walked. -/
import Derived.Test.YtggammbhmoippaaStunT
import Derived.Test.YtggammbhmoippaaHX
import Derived.Test.YtggammbhmoippaaHAuto
namespace Go.Proofs.Ytggammbhmoippaa
set_option linter.unusedVariables false
set_option linter.unusedSimpArgs false
open Go.RowKit
namespace stun
namespace FxStunL1
set_option maxRecDepth 100000
theorem ag25 : Program.aggN Try.prog 25 = some 15 := by kernel_rfl
theorem pl34 : Program.places Try.prog 34 = some [(0, 1), (1, 1), (2, 12), (14, 1)] := by kernel_rfl
theorem sc5 : Program.isSc Try.prog 5 = true := by kernel_rfl
theorem sl27 : Program.slI Try.prog 27 = some 1 := by kernel_rfl
theorem zc34 : Program.zeroC Try.prog 34 = some #[.int .i64 0, .int .i64 0, .int .u8 0, .int .u8 0, .int .u8 0, .int .u8 0, .int .u8 0, .int .u8 0, .int .u8 0, .int .u8 0, .int .u8 0, .int .u8 0, .int .u8 0, .int .u8 0, .slice none 0 0] := by kernel_rfl
end FxStunL1
open FxStunL1
def helloB : List UInt8 := [0, 1, 0, 0, 33, 18, 164, 66, 0, 0, 0, 0, 0, 0, 0, 0, 0, 0, 0, 0]
theorem hello_build : (SM 0 1 (fun _ => 0) ⟨none, 0, []⟩).build = some helloB := by decide +kernel
--REG rostrum/rostrumref04.Build : _ _ ⟨a{d}, c{d}, rfl, rfl⟩ => (stun.refBuild_fn _ _ _ _ _ _ _)
--REG rostrum/rostrumlaw04.awake : _ _ ⟨rfl, rfl⟩ => (stun.awake_fn _)
theorem awake_fn (L : List SA) : Fn Try.prog 9 [] L (fun v L' => v = .bool true ∧ L' = L) := by
  refine Fn.of (N := 27) Try.func9 rfl rfl ?_
  intro Xh
  refine TC.seq ?_
  refine TC.region ?_
  refine TL.val rfl rfl rfl (Y.assign rfl rfl) ?_
  refine TL.nil ?_
  refine TQ.next ?_
  refine TC.seq ?_
  refine TC.region ?_
  refine TL.val rfl rfl rfl (Y.buildS (cells := msgC 0 1 (fun _ => 0) (.slice none 0 0)) rfl rfl pl34 zc34 (by kernel_rfl)) ?_
  refine TL.to (Ent.trans (Ent.nilOwn 73 2) (Ent.trans (Ent.under _ Ent.rdss0) (Ent.mkOwn (l := ([] : List At)) Pull.here Pull.here rfl rfl rfl))) ?_
  refine TL.eff rfl rfl rfl (X.call rfl Try.func11 (by kernel_rfl) rfl rfl (Fn.preE (by repeat first | (with_reducible apply Ent.refl) | (apply Ent.cons; case h => first | (with_reducible (repeat first | apply Pull.here | apply Pull.there); done) | (repeat first | apply Pull.here | apply Pull.there))) (Build_fn 0 1 (fun _ => 0) none 0 [] _))) ?_
  rintro _ _ ⟨a5, c5, rfl, rfl⟩
  rw [hello_build]
  rw [show ob (some helloB) = helloB from rfl, show helloB.length = 20 from rfl]
  refine TL.val rfl rfl rfl (Y.move rfl rfl) ?_
  refine TL.val rfl rfl rfl (Y.extract rfl rfl rfl) ?_
  refine TL.val rfl rfl rfl (Y.extract rfl rfl rfl) ?_
  refine TL.val rfl rfl rfl (Y.assign rfl rfl) ?_
  refine TL.val rfl rfl rfl (Y.assign rfl rfl) ?_
  refine TL.nil ?_
  refine TQ.next ?_
  refine TC.seq ?_
  refine TC.know (owns_some (n := 20) (a := a5) inn (by omega)) ?_
  rintro ⟨g, off, rfl⟩
  refine TC.region ?_
  refine TL.val rfl rfl rfl (Y.move rfl rfl) ?_
  refine TL.val rfl rfl rfl (Y.bin rfl rfl rfl (br_eqN (n := 0))) ?_
  refine TL.is true (by first | rfl | (simp only [decide_eq_true_eq, decide_eq_false_iff_not, Bool.not_eq_true', Bool.not_eq_false', Bool.not_eq_eq_eq_not, Bool.not_true, Bool.not_false, Nat.not_lt, Nat.not_le]; omega) | (simp [*]; done) | (simp; omega)) ?_
  refine TL.val rfl rfl rfl (Y.move rfl rfl) ?_
  refine TL.valG rfl rfl rfl (Y.move rfl rfl) ?_
  refine TL.valG rfl rfl rfl (Y.len rfl Try.underlying27 rfl) ?_
  refine TL.valG rfl rfl rfl (Y.bin rfl rfl rfl (br_eqN (n := 20))) ?_
  refine TL.is true (by first | rfl | (simp only [decide_eq_true_eq, decide_eq_false_iff_not, Bool.not_eq_true', Bool.not_eq_false', Bool.not_eq_eq_eq_not, Bool.not_true, Bool.not_false, Nat.not_lt, Nat.not_le]; omega) | (simp [*]; done) | (simp; omega)) ?_
  refine TL.val rfl rfl rfl (Y.pick_t rfl rfl rfl) ?_
  refine TL.val rfl rfl rfl (Y.move rfl rfl) ?_
  refine TL.valG rfl rfl rfl (Y.move rfl rfl) ?_
  refine TL.valG rfl rfl rfl (by first | exact Y.indexSlB (j := 1) rfl sl27 rfl rfl (by omega) nqq | exact Y.indexSl (j := 1) rfl sl27 rfl rfl (by omega) nqq) ?_
  refine TL.valG rfl rfl rfl (Y.load rfl sc5 rfl (Cel.owns (cs := helloB.map v8) inn (v := v8 1) rfl)) ?_
  refine TL.valG rfl rfl rfl (Y.bin rfl rfl rfl (br_eq8 (y := 1))) ?_
  refine TL.is true (by first | rfl | (simp only [decide_eq_true_eq, decide_eq_false_iff_not, Bool.not_eq_true', Bool.not_eq_false', Bool.not_eq_eq_eq_not, Bool.not_true, Bool.not_false, Nat.not_lt, Nat.not_le]; omega) | (simp [*]; done) | (simp; omega)) ?_
  refine TL.val rfl rfl rfl (Y.pick_t rfl rfl rfl) ?_
  refine TL.val rfl rfl rfl (Y.move rfl rfl) ?_
  refine TL.valG rfl rfl rfl (Y.move rfl rfl) ?_
  refine TL.valG rfl rfl rfl (by first | exact Y.indexSlB (j := 4) rfl sl27 rfl rfl (by omega) nqq | exact Y.indexSl (j := 4) rfl sl27 rfl rfl (by omega) nqq) ?_
  refine TL.valG rfl rfl rfl (Y.load rfl sc5 rfl (Cel.owns (cs := helloB.map v8) inn (v := v8 33) rfl)) ?_
  refine TL.valG rfl rfl rfl (Y.bin rfl rfl rfl (br_eq8 (y := 33))) ?_
  refine TL.is true (by first | rfl | (simp only [decide_eq_true_eq, decide_eq_false_iff_not, Bool.not_eq_true', Bool.not_eq_false', Bool.not_eq_eq_eq_not, Bool.not_true, Bool.not_false, Nat.not_lt, Nat.not_le]; omega) | (simp [*]; done) | (simp; omega)) ?_
  refine TL.val rfl rfl rfl (Y.pick_t rfl rfl rfl) ?_
  refine TL.val rfl rfl rfl (Y.assign rfl rfl) ?_
  refine TL.nil ?_
  refine TQ.next ?_
  refine TC.ret ?_
  refine TQ.retE (res1 rfl rfl) (⟨rfl, rfl⟩) ?_
  exact ett
set_option maxHeartbeats 1000000 in
theorem builds_fn (c m : Int) (f : Nat → UInt8) (a : Option Addr) (cap : Nat) (l : List At) (hl : l.length * 32 ≤ 140737488351232) (hb : ∀ x ∈ l, x.2.l.length ≤ 140737488351232) (L : List SA) :
    Fn Try.prog 3 [.agg (msgC c m f (.slice a l.length cap))] (SA.dat (⟨a, cap, l⟩ : Sl At) :: L) (fun v L' => v = .bool true ∧ L' = SA.dat (⟨a, cap, l⟩ : Sl At) :: L) := by
  refine Fn.of (N := 30) Try.func3 rfl rfl ?_
  intro Xh
  refine TC.seq ?_
  refine TC.region ?_
  refine TL.eff rfl rfl rfl (X.boxA rfl rfl) ?_
  rintro _ _ ⟨b1, rfl, rfl⟩
  refine TL.val rfl rfl rfl (Y.assign rfl rfl) ?_
  refine TL.nil ?_
  refine TQ.next ?_
  refine TC.seq ?_
  refine TC.seq ?_
  refine TC.region ?_
  refine TL.eff rfl rfl rfl (X.call rfl Try.func9 (by kernel_rfl) rfl rfl (Fn.preE (by repeat first | (with_reducible apply Ent.refl) | (apply Ent.cons; case h => first | (with_reducible (repeat first | apply Pull.here | apply Pull.there); done) | (repeat first | apply Pull.here | apply Pull.there))) (stun.awake_fn _))) ?_
  rintro _ _ ⟨rfl, rfl⟩
  refine TL.val rfl rfl rfl (Y.not rfl rfl) ?_
  refine TL.nil ?_
  refine TQ.next ?_
  refine TC.cond_f rfl ?_
  refine TC.skip ?_
  refine TQ.next ?_
  refine TC.seq ?_
  refine TC.region ?_
  refine TL.val rfl rfl rfl (Y.loadAgg rfl ag25 rfl (Cels.all (cs := msgC c m f (.slice a l.length cap)) inn) (by first | rfl | ((try simp only [List.length_map, List.length_set, List.length_replicate]); omega))) ?_
  refine TL.as (.agg (msgC c m f (.slice a l.length cap))) (by rfl) ?_
  refine TL.eff rfl rfl rfl (X.call rfl Try.func10 (by kernel_rfl) rfl rfl (Fn.preE (by repeat first | (with_reducible apply Ent.refl) | (apply Ent.cons; case h => first | (with_reducible (repeat first | apply Pull.here | apply Pull.there); done) | (repeat first | apply Pull.here | apply Pull.there))) (stun.refBuild_fn _ _ _ _ _ _ _))) ?_
  rintro _ _ ⟨a11, c11, rfl, rfl⟩
  refine TL.val rfl rfl rfl (Y.move rfl rfl) ?_
  refine TL.val rfl rfl rfl (Y.extract rfl rfl rfl) ?_
  refine TL.val rfl rfl rfl (Y.extract rfl rfl rfl) ?_
  refine TL.val rfl rfl rfl (Y.assign rfl rfl) ?_
  refine TL.val rfl rfl rfl (Y.assign rfl rfl) ?_
  refine TL.nil ?_
  refine TQ.next ?_
  refine TC.seq ?_
  refine TC.region ?_
  refine TL.val rfl rfl rfl (Y.loadAgg rfl ag25 rfl (Cels.all (cs := msgC c m f (.slice a l.length cap)) inn) (by first | rfl | ((try simp only [List.length_map, List.length_set, List.length_replicate]); omega))) ?_
  refine TL.as (.agg (msgC c m f (.slice a l.length cap))) (by rfl) ?_
  refine TL.eff rfl rfl rfl (X.call rfl Try.func12 (by kernel_rfl) rfl rfl (Fn.preE (by repeat first | (with_reducible apply Ent.refl) | (apply Ent.cons; case h => first | (with_reducible (repeat first | apply Pull.here | apply Pull.there); done) | (repeat first | apply Pull.here | apply Pull.there))) (stun.theirs_fn _ _ _ _ _ _ (by assumption) (by assumption) _))) ?_
  rintro _ _ ⟨ta16, tc16, tl16, rfl, htl16, rfl⟩
  refine TL.eff rfl rfl rfl (X.call rfl Try.func11 (by kernel_rfl) rfl rfl (Fn.preE (by repeat first | (with_reducible apply Ent.refl) | (apply Ent.cons; case h => first | (with_reducible (repeat first | apply Pull.here | apply Pull.there); done) | (repeat first | apply Pull.here | apply Pull.there))) (Build_fn c m f ta16 tc16 tl16 _))) ?_
  rintro _ _ ⟨a17, c17, rfl, rfl⟩
  rw [show SM c m f ⟨ta16, tc16, tl16⟩ = SM c m f ⟨a, cap, l⟩ by simp only [SM, htl16]]
  generalize (SM c m f ⟨a, cap, l⟩).build = o
  refine TL.val rfl rfl rfl (Y.move rfl rfl) ?_
  refine TL.val rfl rfl rfl (Y.extract rfl rfl rfl) ?_
  refine TL.val rfl rfl rfl (Y.extract rfl rfl rfl) ?_
  refine TL.val rfl rfl rfl (Y.assign rfl rfl) ?_
  refine TL.val rfl rfl rfl (Y.assign rfl rfl) ?_
  refine TL.nil ?_
  refine TQ.next ?_
  refine TC.seq ?_
  refine TC.region ?_
  refine TL.val rfl rfl rfl (Y.move rfl rfl) ?_
  refine TL.val rfl rfl rfl (Y.move rfl rfl) ?_
  refine TL.val rfl rfl rfl (Y.bin rfl rfl rfl (br_eqN)) ?_
  refine TL.is true (by first | rfl | (simp only [decide_eq_true_eq, decide_eq_false_iff_not, Bool.not_eq_true', Bool.not_eq_false', Bool.not_eq_eq_eq_not, Bool.not_true, Bool.not_false, Nat.not_lt, Nat.not_le]; omega) | (simp [*]; done) | (simp; omega)) ?_
  refine TL.val rfl rfl rfl (Y.move rfl rfl) ?_
  refine TL.valG rfl rfl rfl (Y.move rfl rfl) ?_
  refine TL.valG rfl rfl rfl (by first | exact Y.str rfl Try.underlying27 Try.underlying9 Try.underlying5 rfl Reads.rds inn | exact Y.str rfl Try.underlying27 Try.underlying9 Try.underlying5 rfl Reads.owns inn | exact Y.str rfl Try.underlying27 Try.underlying9 Try.underlying5 rfl (by assumption) inn) ?_
  refine TL.valG rfl rfl rfl (Y.move rfl rfl) ?_
  refine TL.valG rfl rfl rfl (by first | exact Y.str rfl Try.underlying27 Try.underlying9 Try.underlying5 rfl Reads.rds inn | exact Y.str rfl Try.underlying27 Try.underlying9 Try.underlying5 rfl Reads.owns inn | exact Y.str rfl Try.underlying27 Try.underlying9 Try.underlying5 rfl (by assumption) inn) ?_
  refine TL.valG rfl rfl rfl (Y.eqStr rfl rfl rfl) ?_
  refine TL.is true (by first | rfl | (simp only [decide_eq_true_eq, decide_eq_false_iff_not, Bool.not_eq_true', Bool.not_eq_false', Bool.not_eq_eq_eq_not, Bool.not_true, Bool.not_false, Nat.not_lt, Nat.not_le]; omega) | (simp [*]; done) | (simp; omega)) ?_
  refine TL.val rfl rfl rfl (Y.pick_t rfl rfl rfl) ?_
  refine TL.val rfl rfl rfl (Y.assign rfl rfl) ?_
  refine TL.nil ?_
  refine TQ.next ?_
  refine TC.ret ?_
  refine TQ.retE (res1 rfl rfl) (⟨rfl, rfl⟩) ?_
  exact ett
end stun
end Go.Proofs.Ytggammbhmoippaa
