/- The reader: its contracts; bytes.Clone. -/
import Derived.Test.YtomplpdeeomehaaChecked
import Derived.Test.YtomplpdeeomehaaHCmp
import Derived.Test.YtomplpdeeomehaaHAuto
namespace Go.Proofs.Ytomplpdeeomehaa
set_option linter.unusedVariables false
set_option linter.unusedSimpArgs false
open Go.RowKit
namespace rd
namespace FxWireR
set_option maxRecDepth 100000
theorem el23 : Elt Try.prog 23 5 1 1 (.int .u8 0) := ⟨Try.underlying23, by kernel_rfl, rfl, by decide, by simp [Value.cells, Value.oneCell']⟩
theorem fo89_0 : Program.fieldOff Try.prog 89 0 = some 0 := by kernel_rfl
theorem fo89_1 : Program.fieldOff Try.prog 89 1 = some 1 := by kernel_rfl
theorem pl89 : Program.places Try.prog 89 = some [(0, 1), (1, 1)] := by kernel_rfl
theorem sc23 : Program.isSc Try.prog 23 = true := by kernel_rfl
theorem sc4 : Program.isSc Try.prog 4 = true := by kernel_rfl
theorem sc5 : Program.isSc Try.prog 5 = true := by kernel_rfl
theorem sl23 : Program.slI Try.prog 23 = some 1 := by kernel_rfl
theorem sz23 : (Try.prog.info? 23).map (·.size) = some 1 := by kernel_rfl
theorem sz4 : (Try.prog.info? 4).map (·.size) = some 1 := by kernel_rfl
theorem sz5 : (Try.prog.info? 5).map (·.size) = some 1 := by kernel_rfl
theorem zc89 : Program.zeroC Try.prog 89 = some #[.slice none 0 0, .bool false] := by kernel_rfl
end FxWireR
open FxWireR
--REG bytes.Clone : _ _ ⟨a{d}, c{d}, rfl, rfl⟩ => (rd.Clone_fn _ _ _ _ (by first | assumption | rfl) (by omega) _)
theorem Clone_gen (A : SA) (a : Option Addr) (n cap : Nat) (l : List UInt8) (hA : Reads A 1 (.slice a n cap) n (l.map v8)) (hn : l.length = n) (hl : n ≤ 140737488351232) (L : List SA) :
    Fn Try.prog 25 [.slice a n cap] (A :: L) (fun v L' => ∃ a' c', v = .slice a' n c' ∧ L' = SA.owns 5 1 (.slice a' n c') n (l.map v8) :: A :: L) := by
  subst hn
  refine Fn.of (N := 8) Try.func25 rfl rfl ?_
  intro Xh
  refine TC.know (reads_cap hA inn) ?_
  rintro ⟨-, -, -, hnone⟩
  refine TC.seq ?_
  refine TC.region ?_
  refine TL.val rfl rfl rfl (Y.assign rfl rfl) ?_
  refine TL.nil ?_
  refine TQ.next ?_
  refine TC.seq ?_
  refine TC.seq ?_
  refine TC.region ?_
  refine TL.val rfl rfl rfl (Y.move rfl rfl) ?_
  refine TL.val rfl rfl rfl (Y.eqNilS rfl Try.underlying23 rfl rfl) ?_
  refine TL.nil ?_
  refine TQ.next ?_
  refine TC.cond rfl (fun c0 => ?_) (fun c0 => ?_)
  · try simp only [decide_eq_true_eq, decide_eq_false_iff_not, Bool.not_eq_true', Bool.not_eq_false', Bool.and_eq_true, Bool.or_eq_true, Nat.not_lt, Nat.not_le, beq_iff_eq, bne_iff_ne] at c0
    have ha : a = none := by cases a <;> simp_all
    have h0 := hnone ha
    obtain rfl : l = [] := List.eq_nil_of_length_eq_zero h0
    refine TC.to (Ent.nilOwn 5 1) ?_
    refine TC.seq ?_
    refine TC.region ?_
    refine TL.val rfl rfl rfl (Y.assign rfl rfl) ?_
    refine TL.nil ?_
    refine TQ.next ?_
    refine TC.ret ?_
    refine TQ.then_ret ?_
    refine TQ.retE (res1 rfl rfl) (⟨_, _, rfl, rfl⟩) ?_
    exact ett
  · try simp only [decide_eq_true_eq, decide_eq_false_iff_not, Bool.not_eq_true', Bool.not_eq_false', Bool.and_eq_true, Bool.or_eq_true, Nat.not_lt, Nat.not_le, beq_iff_eq, bne_iff_ne] at c0
    refine TC.skip ?_
    refine TQ.next ?_
    refine TC.seq ?_
    refine TC.region ?_
    refine TL.eff rfl rfl rfl (X.lit rfl el23 rfl rfl rfl (by decide) rfl) ?_
    rintro _ _ ⟨g5, rfl, rfl⟩
    refine TL.val rfl rfl rfl (Y.move rfl rfl) ?_
    refine TL.eff rfl rfl rfl (X.appendS rfl el23 rfl pul rfl (Src.reads hA Try.underlying23 inn) (by simp only [maxLen]; omega) (by omega)) ?_
    rintro _ _ ⟨a7, c7, rfl, rfl⟩
    simp only [Nat.zero_add, List.nil_append]
    refine TL.val rfl rfl rfl (Y.assign rfl rfl) ?_
    refine TL.nil ?_
    refine TQ.next ?_
    refine TC.ret ?_
    refine TQ.retE (res1 rfl rfl) (⟨_, _, rfl, rfl⟩) ?_
    exact ett
theorem Clone_fn (a : Option Addr) (n cap : Nat) (l : List UInt8) (hn : l.length = n) (hl : n ≤ 140737488351232) (L : List SA) :
    Fn Try.prog 25 [.slice a n cap] (SA.rds 1 (.slice a n cap) n (l.map v8) :: L) (fun v L' => ∃ a' c', v = .slice a' n c' ∧ L' = SA.owns 5 1 (.slice a' n c') n (l.map v8) :: SA.rds 1 (.slice a n cap) n (l.map v8) :: L) := Clone_gen _ a n cap l Reads.rds hn hl L
def rdB (k : Nat) (l : List UInt8) (bad : Bool) : Bool := bad || decide (l.length < k)
def rdL (k : Nat) (l : List UInt8) (bad : Bool) : List UInt8 := if rdB k l bad then l else l.drop k
def rdV (k : Nat) (l : List UInt8) (bad : Bool) : List UInt8 := if rdB k l bad then [] else l.take k
theorem rdV_len (k : Nat) (l : List UInt8) (bad : Bool) : (rdV k l bad).length ≤ l.length := by unfold rdV; split <;> simp <;> omega
theorem rdL_len (k : Nat) (l : List UInt8) (bad : Bool) : (rdL k l bad).length ≤ l.length := by unfold rdL; split <;> simp
/-- a reader with what is left -/
def R (b : Nat) (l : List UInt8) (bad : Bool) : SA := SA.ex fun x : Option Addr × Nat => SA.star (SA.blk b #[.slice x.1 l.length x.2, .bool bad] 89) (SA.rds 1 (.slice x.1 l.length x.2) l.length (l.map v8))
theorem put {b n cap : Nat} {bad : Bool} {a : Option Addr} {l : List UInt8} {cs : List Value} {cb : Array Value} {L L1 L2 L3 : List SA} (h1 : Pull (SA.blk b cb 89) L L1) (hb : cb = #[.slice a n cap, .bool bad]) (h2 : Pull (SA.rds 1 (.slice a n cap) n cs) L1 L2) (hn : l.length = n) (hc : l.map v8 = cs) (hE : Ent L2 L3) : Ent L (R b l bad :: L3) := by
  subst hb; subst hn; subst hc
  exact h1.ent.trans ((h2.ent.under _).trans ((Ent.unstarE.trans (Ent.exE (f := fun x : Option Addr × Nat => SA.star (SA.blk b #[.slice x.1 l.length x.2, .bool bad] 89) (SA.rds 1 (.slice x.1 l.length x.2) l.length (l.map v8))) (a, cap))).trans (hE.under _)))
--REG rostrum/wire.NewReader : _ _ ⟨p{d}, rfl, rfl⟩ => (rd.New_fn _ _ _ _ (by first | assumption | rfl) (by omega) _)
theorem New_gen (A : SA) (a : Option Addr) (n cap : Nat) (l : List UInt8) (hA : Reads A 1 (.slice a n cap) n (l.map v8)) (hn : l.length = n) (hl : n ≤ 140737488351232) (L : List SA) :
    Fn Try.prog 26 [.slice a n cap] (A :: L) (fun v L' => ∃ p, v = pt p 0 ∧ L' = R p l false :: A :: L) := by
  subst hn
  refine Fn.of (N := 7) Try.func26 rfl rfl ?_
  intro Xh
  refine TC.seq ?_
  refine TC.region ?_
  refine TL.val rfl rfl rfl (Y.assign rfl rfl) ?_
  refine TL.nil ?_
  refine TQ.next ?_
  refine TC.seq ?_
  refine TC.region ?_
  refine TL.val rfl rfl rfl (Y.move rfl rfl) ?_
  refine TL.eff rfl rfl rfl (X.call rfl Try.func25 (by kernel_rfl) rfl rfl (Fn.preE (by repeat first | (with_reducible apply Ent.refl) | (apply Ent.cons; case h => first | (with_reducible (repeat first | apply Pull.here | apply Pull.there); done) | (repeat first | apply Pull.here | apply Pull.there))) (Clone_gen A _ _ _ l hA rfl hl _))) ?_
  rintro _ _ ⟨a4, c4, rfl, rfl⟩
  refine TL.val rfl rfl rfl (Y.buildS rfl rfl pl89 zc89 rfl) ?_
  refine TL.eff rfl rfl rfl (X.boxA rfl rfl) ?_
  rintro _ _ ⟨b6, rfl, rfl⟩
  refine TL.val rfl rfl rfl (Y.assign rfl rfl) ?_
  refine TL.nil ?_
  refine TQ.next ?_
  refine TC.ret ?_
  refine TQ.retE (res1 rfl rfl) (⟨_, rfl, rfl⟩) ?_
  exact ((Pull.ent (A := SA.owns 5 1 (.slice a4 l.length c4) l.length (l.map v8)) pul).trans (Ent.freeze.trans (put pul (by rfl) pul rfl rfl ett)))
theorem New_fn (a : Option Addr) (n cap : Nat) (l : List UInt8) (hn : l.length = n) (hl : n ≤ 140737488351232) (L : List SA) :
    Fn Try.prog 26 [.slice a n cap] (SA.rds 1 (.slice a n cap) n (l.map v8) :: L) (fun v L' => ∃ p, v = pt p 0 ∧ L' = R p l false :: SA.rds 1 (.slice a n cap) n (l.map v8) :: L) := New_gen _ a n cap l Reads.rds hn hl L
--REG (*rostrum/wire.Reader).Left : _ _ ⟨rfl, rfl⟩ => (rd.Left_fn _ _ _ _)
theorem Left_fn (b : Nat) (l : List UInt8) (bad : Bool) (L : List SA) : Fn Try.prog 30 [pt b 0] (R b l bad :: L) (fun v L' => v = vN l.length ∧ L' = R b l bad :: L) := by
  refine Fn.of (N := 10) Try.func30 rfl rfl ?_
  intro Xh
  refine TC.open pul ?_
  rintro ⟨a, cap⟩
  refine TC.split pul ?_
  refine TC.seq ?_
  refine TC.region ?_
  refine TL.val rfl rfl rfl (Y.assign rfl rfl) ?_
  refine TL.nil ?_
  refine TQ.next ?_
  refine TC.seq ?_
  refine TC.seq ?_
  refine TC.region ?_
  refine TL.val rfl rfl rfl (Y.move rfl rfl) ?_
  refine TL.val rfl rfl rfl (by first | exact Y.eqNilP rfl Try.underlying69 rfl rfl | exact Y.eqNil0 rfl Try.underlying69 rfl rfl) ?_
  refine TL.nil ?_
  refine TQ.next ?_
  refine TC.cond_f rfl ?_
  refine TC.skip ?_
  refine TQ.next ?_
  refine TC.seq ?_
  refine TC.region ?_
  refine TL.val rfl rfl rfl (Y.move rfl rfl) ?_
  refine TL.val rfl rfl rfl (Y.nilCheck rfl rfl) ?_
  refine TL.val rfl rfl rfl (Y.fieldAddr rfl fo89_0 rfl nqq) ?_
  refine TL.val rfl rfl rfl (Y.load rfl sc23 rfl ceoD) ?_
  refine TL.val rfl rfl rfl (Y.len rfl Try.underlying23 rfl) ?_
  refine TL.val rfl rfl rfl (Y.assign rfl rfl) ?_
  refine TL.nil ?_
  refine TQ.next ?_
  refine TC.ret ?_
  refine TQ.retE (res1 rfl rfl) (⟨rfl, rfl⟩) ?_
  exact (put pul (by rfl) pul rfl rfl ett)
--REG (*rostrum/wire.Reader).Bad : _ _ ⟨rfl, rfl⟩ => (rd.Bad_fn _ _ _ _)
theorem Bad_fn (b : Nat) (l : List UInt8) (bad : Bool) (L : List SA) : Fn Try.prog 28 [pt b 0] (R b l bad :: L) (fun v L' => v = .bool bad ∧ L' = R b l bad :: L) := by
  refine Fn.of (N := 11) Try.func28 rfl rfl ?_
  intro Xh
  refine TC.open pul ?_
  rintro ⟨a, cap⟩
  refine TC.split pul ?_
  refine TC.seq ?_
  refine TC.region ?_
  refine TL.val rfl rfl rfl (Y.assign rfl rfl) ?_
  refine TL.nil ?_
  refine TQ.next ?_
  refine TC.seq ?_
  refine TC.region ?_
  refine TL.val rfl rfl rfl (Y.move rfl rfl) ?_
  refine TL.val rfl rfl rfl (by first | exact Y.eqNilP rfl Try.underlying69 rfl rfl | exact Y.eqNil0 rfl Try.underlying69 rfl rfl) ?_
  refine TL.val rfl rfl rfl (Y.move rfl rfl) ?_
  refine TL.valG rfl rfl rfl (Y.move rfl rfl) ?_
  refine TL.valG rfl rfl rfl (Y.nilCheck rfl rfl) ?_
  refine TL.valG rfl rfl rfl (Y.fieldAddr rfl fo89_1 rfl nqq) ?_
  refine TL.valG rfl rfl rfl (Y.load rfl sc4 rfl ceoD) ?_
  refine TL.val rfl rfl rfl (Y.pick_f rfl rfl rfl) ?_
  refine TL.val rfl rfl rfl (Y.assign rfl rfl) ?_
  refine TL.nil ?_
  refine TQ.next ?_
  refine TC.ret ?_
  refine TQ.retE (res1 rfl rfl) (⟨rfl, rfl⟩) ?_
  exact (put pul (by rfl) pul rfl rfl ett)
theorem cut_t (b k : Nat) (l : List UInt8) (hk : k < 9223372036854775808) (L : List SA) : Fn Try.prog 51 [pt b 0, vN k] (R b l true :: L) (fun v L' => v = .slice none 0 0 ∧ L' = R b l true :: L) := by
  refine Fn.of (N := 42) Try.func51 rfl rfl ?_
  intro Xh
  refine TC.seq ?_
  refine TC.region ?_
  refine TL.val rfl rfl rfl (Y.assign rfl rfl) ?_
  refine TL.nil ?_
  refine TQ.next ?_
  refine TC.seq ?_
  refine TC.seq ?_
  refine TC.region ?_
  refine TL.val rfl rfl rfl (Y.move rfl rfl) ?_
  refine TL.eff rfl rfl rfl (X.call rfl Try.func28 (by kernel_rfl) rfl rfl (Fn.preE (by repeat first | (with_reducible apply Ent.refl) | (apply Ent.cons; case h => first | (with_reducible (repeat first | apply Pull.here | apply Pull.there); done) | (repeat first | apply Pull.here | apply Pull.there))) (rd.Bad_fn _ _ _ _))) ?_
  rintro _ _ ⟨rfl, rfl⟩
  refine TL.val rfl rfl rfl (Y.move rfl rfl) ?_
  refine TL.not rfl rfl rfl ?_
  refine TL.not rfl rfl rfl ?_
  refine TL.val rfl rfl rfl (Y.pick_t rfl rfl rfl) ?_
  refine TL.val rfl rfl rfl (Y.move rfl rfl) ?_
  refine TL.not rfl rfl rfl ?_
  refine TL.not rfl rfl rfl ?_
  refine TL.not rfl rfl rfl ?_
  refine TL.not rfl rfl rfl ?_
  refine TL.not rfl rfl rfl ?_
  refine TL.not rfl rfl rfl ?_
  refine TL.not rfl rfl rfl ?_
  refine TL.val rfl rfl rfl (Y.pick_t rfl rfl rfl) ?_
  refine TL.nil ?_
  refine TQ.next ?_
  refine TC.cond_t rfl ?_
  refine TC.seq ?_
  refine TC.seq ?_
  refine TC.region ?_
  refine TL.val rfl rfl rfl (Y.move rfl rfl) ?_
  refine TL.val rfl rfl rfl (by first | exact Y.neNilP rfl Try.underlying69 rfl rfl | exact Y.neNil0 rfl Try.underlying69 rfl rfl) ?_
  refine TL.is true (by first | rfl | (simp only [decide_eq_true_eq, decide_eq_false_iff_not, Bool.not_eq_true', Bool.not_eq_false', Bool.not_eq_eq_eq_not, Bool.not_true, Bool.not_false, Nat.not_lt, Nat.not_le]; omega) | (simp [*]; done) | (simp; omega)) ?_
  refine TL.nil ?_
  refine TQ.next ?_
  refine TC.cond_t rfl ?_
  refine TC.open pul ?_
  rintro ⟨a, cap⟩
  refine TC.split pul ?_
  refine TC.region ?_
  refine TL.val rfl rfl rfl (Y.move rfl rfl) ?_
  refine TL.val rfl rfl rfl (Y.nilCheck rfl rfl) ?_
  refine TL.val rfl rfl rfl (Y.fieldAddr rfl fo89_1 rfl nqq) ?_
  refine TL.eff0 rfl rfl (by first | exact X.store rfl sz4 rfl rfl rfl pul lnn (by first | exact setM | rfl) | exact X.storeOwn rfl sz4 rfl (Nat.zero_add _).symm rfl rfl pul lnn (by first | exact setML | rfl) | exact X.storeOwn rfl sz4 rfl rfl rfl rfl pul lnn (by first | exact setML | rfl)) ?_
  rintro _ _ rfl
  refine TL.nil ?_
  refine TQ.next ?_
  refine TC.seq ?_
  refine TC.region ?_
  refine TL.val rfl rfl rfl (Y.assign rfl rfl) ?_
  refine TL.nil ?_
  refine TQ.next ?_
  refine TC.ret ?_
  refine TQ.then_ret ?_
  refine TQ.retE (res1 rfl rfl) (⟨rfl, rfl⟩) ?_
  exact (put pul (by rfl) pul rfl rfl ett)
theorem cut_s (b k : Nat) (l : List UInt8) (hk : k < 9223372036854775808) (hl : l.length < k) (L : List SA) : Fn Try.prog 51 [pt b 0, vN k] (R b l false :: L) (fun v L' => v = .slice none 0 0 ∧ L' = R b l true :: L) := by
  refine Fn.of (N := 42) Try.func51 rfl rfl ?_
  intro Xh
  refine TC.seq ?_
  refine TC.region ?_
  refine TL.val rfl rfl rfl (Y.assign rfl rfl) ?_
  refine TL.nil ?_
  refine TQ.next ?_
  refine TC.seq ?_
  refine TC.seq ?_
  refine TC.region ?_
  refine TL.val rfl rfl rfl (Y.move rfl rfl) ?_
  refine TL.eff rfl rfl rfl (X.call rfl Try.func28 (by kernel_rfl) rfl rfl (Fn.preE (by repeat first | (with_reducible apply Ent.refl) | (apply Ent.cons; case h => first | (with_reducible (repeat first | apply Pull.here | apply Pull.there); done) | (repeat first | apply Pull.here | apply Pull.there))) (rd.Bad_fn _ _ _ _))) ?_
  rintro _ _ ⟨rfl, rfl⟩
  refine TL.val rfl rfl rfl (Y.move rfl rfl) ?_
  refine TL.valG rfl rfl rfl (Y.move rfl rfl) ?_
  refine TL.valG rfl rfl rfl (Y.bin rfl rfl rfl (br_ltN (n := 0))) ?_
  refine TL.is false (by first | rfl | (simp only [decide_eq_true_eq, decide_eq_false_iff_not, Bool.not_eq_true', Bool.not_eq_false', Bool.not_eq_eq_eq_not, Bool.not_true, Bool.not_false, Nat.not_lt, Nat.not_le]; omega) | (simp [*]; done) | (simp; omega)) ?_
  refine TL.val rfl rfl rfl (Y.pick_f rfl rfl rfl) ?_
  refine TL.val rfl rfl rfl (Y.move rfl rfl) ?_
  refine TL.valG rfl rfl rfl (Y.move rfl rfl) ?_
  refine TL.open pul ?_
  rintro ⟨a, cap⟩
  refine TL.split pul ?_
  refine TL.valG rfl rfl rfl (Y.move rfl rfl) ?_
  refine TL.valG rfl rfl rfl (Y.nilCheck rfl rfl) ?_
  refine TL.valG rfl rfl rfl (Y.fieldAddr rfl fo89_0 rfl nqq) ?_
  refine TL.valG rfl rfl rfl (Y.load rfl sc23 rfl ceoD) ?_
  refine TL.valG rfl rfl rfl (Y.len rfl Try.underlying23 rfl) ?_
  refine TL.valG rfl rfl rfl (Y.bin rfl rfl rfl (br_gtN)) ?_
  refine TL.is true (by first | rfl | (simp only [decide_eq_true_eq, decide_eq_false_iff_not, Bool.not_eq_true', Bool.not_eq_false', Bool.not_eq_eq_eq_not, Bool.not_true, Bool.not_false, Nat.not_lt, Nat.not_le]; omega) | (simp [*]; done) | (simp; omega)) ?_
  refine TL.val rfl rfl rfl (Y.pick_f rfl rfl rfl) ?_
  refine TL.nil ?_
  refine TQ.next ?_
  refine TC.cond_t rfl ?_
  refine TC.seq ?_
  refine TC.seq ?_
  refine TC.region ?_
  refine TL.val rfl rfl rfl (Y.move rfl rfl) ?_
  refine TL.val rfl rfl rfl (by first | exact Y.neNilP rfl Try.underlying69 rfl rfl | exact Y.neNil0 rfl Try.underlying69 rfl rfl) ?_
  refine TL.is true (by first | rfl | (simp only [decide_eq_true_eq, decide_eq_false_iff_not, Bool.not_eq_true', Bool.not_eq_false', Bool.not_eq_eq_eq_not, Bool.not_true, Bool.not_false, Nat.not_lt, Nat.not_le]; omega) | (simp [*]; done) | (simp; omega)) ?_
  refine TL.nil ?_
  refine TQ.next ?_
  refine TC.cond_t rfl ?_
  refine TC.region ?_
  refine TL.val rfl rfl rfl (Y.move rfl rfl) ?_
  refine TL.val rfl rfl rfl (Y.nilCheck rfl rfl) ?_
  refine TL.val rfl rfl rfl (Y.fieldAddr rfl fo89_1 rfl nqq) ?_
  refine TL.eff0 rfl rfl (by first | exact X.store rfl sz4 rfl rfl rfl pul lnn (by first | exact setM | rfl) | exact X.storeOwn rfl sz4 rfl (Nat.zero_add _).symm rfl rfl pul lnn (by first | exact setML | rfl) | exact X.storeOwn rfl sz4 rfl rfl rfl rfl pul lnn (by first | exact setML | rfl)) ?_
  rintro _ _ rfl
  refine TL.nil ?_
  refine TQ.next ?_
  refine TC.seq ?_
  refine TC.region ?_
  refine TL.val rfl rfl rfl (Y.assign rfl rfl) ?_
  refine TL.nil ?_
  refine TQ.next ?_
  refine TC.ret ?_
  refine TQ.then_ret ?_
  refine TQ.retE (res1 rfl rfl) (⟨rfl, rfl⟩) ?_
  exact (put pul (by rfl) pul rfl rfl ett)
theorem cut_o (b k : Nat) (l : List UInt8) (hk : k < 9223372036854775808) (hl : k ≤ l.length) (L : List SA) : Fn Try.prog 51 [pt b 0, vN k] (R b l false :: L)
    (fun v L' => ∃ a c, v = .slice a k c ∧ L' = SA.rds 1 (.slice a k c) k ((l.take k).map v8) :: R b (l.drop k) false :: L) := by
  refine Fn.of (N := 42) Try.func51 rfl rfl ?_
  intro Xh
  refine TC.seq ?_
  refine TC.region ?_
  refine TL.val rfl rfl rfl (Y.assign rfl rfl) ?_
  refine TL.nil ?_
  refine TQ.next ?_
  refine TC.seq ?_
  refine TC.seq ?_
  refine TC.region ?_
  refine TL.val rfl rfl rfl (Y.move rfl rfl) ?_
  refine TL.eff rfl rfl rfl (X.call rfl Try.func28 (by kernel_rfl) rfl rfl (Fn.preE (by repeat first | (with_reducible apply Ent.refl) | (apply Ent.cons; case h => first | (with_reducible (repeat first | apply Pull.here | apply Pull.there); done) | (repeat first | apply Pull.here | apply Pull.there))) (rd.Bad_fn _ _ _ _))) ?_
  rintro _ _ ⟨rfl, rfl⟩
  refine TL.val rfl rfl rfl (Y.move rfl rfl) ?_
  refine TL.valG rfl rfl rfl (Y.move rfl rfl) ?_
  refine TL.valG rfl rfl rfl (Y.bin rfl rfl rfl (br_ltN (n := 0))) ?_
  refine TL.is false (by first | rfl | (simp only [decide_eq_true_eq, decide_eq_false_iff_not, Bool.not_eq_true', Bool.not_eq_false', Bool.not_eq_eq_eq_not, Bool.not_true, Bool.not_false, Nat.not_lt, Nat.not_le]; omega) | (simp [*]; done) | (simp; omega)) ?_
  refine TL.val rfl rfl rfl (Y.pick_f rfl rfl rfl) ?_
  refine TL.val rfl rfl rfl (Y.move rfl rfl) ?_
  refine TL.valG rfl rfl rfl (Y.move rfl rfl) ?_
  refine TL.open pul ?_
  rintro ⟨a, cap⟩
  refine TL.split pul ?_
  refine TL.valG rfl rfl rfl (Y.move rfl rfl) ?_
  refine TL.valG rfl rfl rfl (Y.nilCheck rfl rfl) ?_
  refine TL.valG rfl rfl rfl (Y.fieldAddr rfl fo89_0 rfl nqq) ?_
  refine TL.valG rfl rfl rfl (Y.load rfl sc23 rfl ceoD) ?_
  refine TL.valG rfl rfl rfl (Y.len rfl Try.underlying23 rfl) ?_
  refine TL.valG rfl rfl rfl (Y.bin rfl rfl rfl (br_gtN)) ?_
  refine TL.is false (by first | rfl | (simp only [decide_eq_true_eq, decide_eq_false_iff_not, Bool.not_eq_true', Bool.not_eq_false', Bool.not_eq_eq_eq_not, Bool.not_true, Bool.not_false, Nat.not_lt, Nat.not_le]; omega) | (simp [*]; done) | (simp; omega)) ?_
  refine TL.val rfl rfl rfl (Y.pick_f rfl rfl rfl) ?_
  refine TL.nil ?_
  refine TQ.next ?_
  refine TC.cond_f rfl ?_
  refine TC.skip ?_
  refine TQ.next ?_
  refine TC.seq ?_
  refine TC.know (reads_cap Reads.rds (a := a) (n := l.length) (cap := cap) (cs := l.map v8) inn) ?_
  rintro ⟨hc1, hc2, -, -⟩
  refine TC.region ?_
  refine TL.val rfl rfl rfl (Y.move rfl rfl) ?_
  refine TL.val rfl rfl rfl (Y.nilCheck rfl rfl) ?_
  refine TL.val rfl rfl rfl (Y.fieldAddr rfl fo89_0 rfl nqq) ?_
  refine TL.val rfl rfl rfl (Y.load rfl sc23 rfl ceoD) ?_
  refine TL.val rfl rfl rfl (Y.move rfl rfl) ?_
  refine TL.val rfl rfl rfl (Y.sliceHi2 rfl Try.underlying23 sz5 rfl rfl (by omega)) ?_
  refine TL.val rfl rfl rfl (Y.assign rfl rfl) ?_
  refine TL.nil ?_
  refine TQ.next ?_
  refine TC.seq ?_
  refine TC.region ?_
  refine TL.val rfl rfl rfl (Y.move rfl rfl) ?_
  refine TL.val rfl rfl rfl (Y.move rfl rfl) ?_
  refine TL.val rfl rfl rfl (Y.nilCheck rfl rfl) ?_
  refine TL.val rfl rfl rfl (Y.fieldAddr rfl fo89_0 rfl nqq) ?_
  refine TL.val rfl rfl rfl (Y.load rfl sc23 rfl ceoD) ?_
  refine TL.val rfl rfl rfl (Y.move rfl rfl) ?_
  refine TL.val rfl rfl rfl (Y.sliceLo rfl Try.underlying23 sz5 rfl rfl (by omega)) ?_
  refine TL.val rfl rfl rfl (Y.nilCheck rfl rfl) ?_
  refine TL.val rfl rfl rfl (Y.fieldAddr rfl fo89_0 rfl nqq) ?_
  refine TL.eff0 rfl rfl (by first | exact X.store rfl sz23 rfl rfl rfl pul lnn (by first | exact setM | rfl) | exact X.storeOwn rfl sz23 rfl (Nat.zero_add _).symm rfl rfl pul lnn (by first | exact setML | rfl) | exact X.storeOwn rfl sz23 rfl rfl rfl rfl pul lnn (by first | exact setML | rfl)) ?_
  rintro _ _ rfl
  refine TL.nil ?_
  refine TQ.next ?_
  refine TC.seq ?_
  refine TC.region ?_
  refine TL.val rfl rfl rfl (Y.move rfl rfl) ?_
  refine TL.val rfl rfl rfl (Y.assign rfl rfl) ?_
  refine TL.nil ?_
  refine TQ.next ?_
  refine TC.ret ?_
  refine TQ.retE (res1 rfl rfl) (⟨_, _, rfl, rfl⟩) ?_
  exact ((Pull.ent (A := SA.rds 1 (.slice a l.length cap) l.length (l.map v8)) pul).trans ((Ent.cutRds hl).trans (Ent.under _ (put pul (by rfl) (l := l.drop k) (by first | exact Pull.here | exact Pull.there .here) (by simp) rfl ett))))
--REG (*rostrum/wire.Reader).cut : _ _ ⟨a{d}, c{d}, rfl, rfl⟩ => (rd.cut_fn _ {1} _ _ (by omega) _)
theorem cut_fn (b k : Nat) (l : List UInt8) (bad : Bool) (hk : k < 9223372036854775808) (L : List SA) : Fn Try.prog 51 [pt b 0, vN k] (R b l bad :: L)
    (fun v L' => ∃ a c, v = .slice a (rdV k l bad).length c ∧ L' = SA.rds 1 (.slice a (rdV k l bad).length c) (rdV k l bad).length ((rdV k l bad).map v8) :: R b (rdL k l bad) (rdB k l bad) :: L) := by
  have nilR : ∀ M : List SA, Ent M (SA.rds 1 (.slice none 0 0) 0 (([] : List UInt8).map v8) :: M) := fun M => (Ent.nilOwn 0 1).trans Ent.freeze
  by_cases hB : rdB k l bad = true
  · have e1 : rdV k l bad = [] := by simp [rdV, hB]
    have e2 : rdL k l bad = l := by simp [rdL, hB]
    rw [e1, e2, hB]
    cases bad with
    | true => exact (cut_t b k l hk L).mono fun v L' ⟨h1, h2⟩ => ⟨_, nilR _, none, 0, h1, by rw [h2]; rfl⟩
    | false => exact (cut_s b k l hk (by simpa [rdB] using hB) L).mono fun v L' ⟨h1, h2⟩ => ⟨_, nilR _, none, 0, h1, by rw [h2]; rfl⟩
  · have hB' : bad = false ∧ k ≤ l.length := by simpa [rdB] using hB
    obtain ⟨rfl, hl⟩ := hB'
    have e0 : rdB k l false = false := by simpa using hB
    have e1 : rdV k l false = l.take k := by simp [rdV, e0]
    have e2 : rdL k l false = l.drop k := by simp [rdL, e0]
    rw [e1, e2, e0, List.length_take, Nat.min_eq_left hl]
    exact cut_o b k l hk hl L
def num1 (x : UInt32) (c : UInt8) : UInt32 := shl32 x 8 ||| c.toUInt32
def num (l : List UInt8) : UInt32 := l.foldl num1 0
def numK (l : List UInt8) (k : Nat) : UInt32 := num (l.take k)
theorem numK_s (l : List UInt8) (k : Nat) (h : k < l.length) : numK l (k + 1) = num1 (numK l k) (l.getD k 0) := by
  unfold numK num
  rw [List.take_add_one, List.foldl_append, List.getD_eq_getElem?_getD, List.getElem?_eq_getElem h]
  rfl
theorem numK_all (l : List UInt8) : numK l l.length = num l := by rw [numK, List.take_length]
--REG (*rostrum/wire.Reader).number : _ _ ⟨rfl, rfl⟩ => (rd.number_fn _ {1} _ _ (by omega) _)
theorem number_fn (b k : Nat) (l : List UInt8) (bad : Bool) (hk : k ≤ 8) (L : List SA) : Fn Try.prog 47 [pt b 0, vN k] (R b l bad :: L)
    (fun v L' => v = v32 (num (rdV k l bad)) ∧ L' = R b (rdL k l bad) (rdB k l bad) :: L) := by
  have hV : (rdV k l bad).length ≤ 8 := by unfold rdV; split <;> simp <;> omega
  refine Fn.of (N := 23) Try.func47 rfl rfl ?_
  intro Xh
  refine TC.seq ?_
  refine TC.region ?_
  refine TL.val rfl rfl rfl (Y.assign rfl rfl) ?_
  refine TL.nil ?_
  refine TQ.next ?_
  refine TC.seq ?_
  refine TC.region ?_
  refine TL.val rfl rfl rfl (Y.assign rfl rfl) ?_
  refine TL.nil ?_
  refine TQ.next ?_
  refine TC.seq ?_
  refine TC.seq ?_
  refine TC.region ?_
  refine TL.val rfl rfl rfl (Y.move rfl rfl) ?_
  refine TL.val rfl rfl rfl (Y.move rfl rfl) ?_
  refine TL.eff rfl rfl rfl (X.call rfl Try.func51 (by kernel_rfl) rfl rfl (Fn.preE (by repeat first | (with_reducible apply Ent.refl) | (apply Ent.cons; case h => first | (with_reducible (repeat first | apply Pull.here | apply Pull.there); done) | (repeat first | apply Pull.here | apply Pull.there))) (rd.cut_fn _ _ _ _ (by omega) _))) ?_
  rintro _ _ ⟨a10, c10, rfl, rfl⟩
  generalize rdV k l bad = V at hV ⊢
  refine TL.val rfl rfl rfl (Y.len rfl Try.underlying23 rfl) ?_
  refine TL.val rfl rfl rfl (Y.move rfl rfl) ?_
  refine TL.nil ?_
  refine TQ.next ?_
  refine TC.block ?_
  refine TC.loopF (ι := Nat) [] (fun j => j ≤ V.length) (fun j => [(12, some (vN j)), (5, some (v32 (numK V j)))]) (fun j => []) (fun j => V.length - j) (0) (by omega) ⟨rfl, rfl, trivial⟩ Pulls.nil ?_
  rintro j hj F' L' rfl hL'
  simp only [List.cons_append, List.nil_append] at hL'
  subst hL'
  refine TC.seq ?_
  refine TC.region ?_
  refine TL.val rfl rfl rfl (Y.bin rfl rfl rfl (br_ltN)) ?_
  refine TL.nil ?_
  refine TQ.next ?_
  refine TC.seq ?_
  refine TC.cond rfl (fun c0 => ?_) (fun c0 => ?_)
  · try simp only [decide_eq_true_eq, decide_eq_false_iff_not, Bool.not_eq_true', Bool.not_eq_false', Bool.and_eq_true, Bool.or_eq_true, Nat.not_lt, Nat.not_le, beq_iff_eq, bne_iff_ne] at c0
    refine TC.skip ?_
    refine TQ.next ?_
    refine TC.seq ?_
    refine TC.block ?_
    refine TC.seq ?_
    refine TC.know (reads_some (Reads.rds (v := .slice a10 V.length c10)) inn (by omega) (by omega)) ?_
    rintro ⟨g, off, rfl⟩
    refine TC.region ?_
    refine TL.val rfl rfl rfl (by first | exact Y.indexSlB rfl sl23 rfl rfl (by omega) nqq | exact Y.indexSl rfl sl23 rfl rfl (by omega) nqq) ?_
    refine TL.val rfl rfl rfl (Y.load rfl sc5 rfl ceo8) ?_
    refine TL.val rfl rfl rfl (Y.assign rfl rfl) ?_
    refine TL.nil ?_
    refine TQ.next ?_
    refine TC.region ?_
    refine TL.val rfl rfl rfl (Y.move rfl rfl) ?_
    refine TL.val rfl rfl rfl (Y.bin rfl rfl rfl (br_shl32 (n := 8))) ?_
    refine TL.val rfl rfl rfl (Y.move rfl rfl) ?_
    refine TL.val rfl rfl rfl (Y.conv rfl Try.underlying5 Try.underlying22 rfl (cv_8_32)) ?_
    refine TL.val rfl rfl rfl (Y.bin rfl rfl rfl (br_or32)) ?_
    refine TL.val rfl rfl rfl (Y.assign rfl rfl) ?_
    refine TL.nil ?_
    refine TQ.block_normal ?_
    refine TQ.next ?_
    refine TC.region ?_
    refine TL.val rfl rfl rfl (Y.bin rfl rfl rfl (br_addN (n := 1) (by omega))) ?_
    refine TL.val rfl rfl rfl (Y.move rfl rfl) ?_
    refine TL.nil ?_
    rw [show shl32 (numK V j) 8 ||| (V.getD j 0).toUInt32 = numK V (j + 1) from (numK_s V j (by omega)).symm]
    refine TQ.loopF (j + 1) (by omega) (by omega) ⟨rfl, rfl, trivial⟩ (by (repeat first | apply Grow.refl | apply Grow.step | apply Grow.app)) ?_ ?_ ?_
    · kernel_rfl
    · rfl
    · simp only [List.cons_append, List.nil_append]
      exact ett
  · try simp only [decide_eq_true_eq, decide_eq_false_iff_not, Bool.not_eq_true', Bool.not_eq_false', Bool.and_eq_true, Bool.or_eq_true, Nat.not_lt, Nat.not_le, beq_iff_eq, bne_iff_ne] at c0
    refine TC.exit ?_
    refine TQ.then_exit ?_
    refine TQ.then_exit ?_
    refine TQ.block_exit ?_
    refine TQ.next ?_
    refine TC.seq ?_
    refine TC.region ?_
    refine TL.val rfl rfl rfl (Y.move rfl rfl) ?_
    refine TL.val rfl rfl rfl (Y.assign rfl rfl) ?_
    refine TL.nil ?_
    refine TQ.next ?_
    refine TC.ret ?_
    refine TQ.retE (res1 rfl rfl) (⟨by rw [show j = V.length by omega, numK_all], rfl⟩) ?_
    exact ett
--REG (*rostrum/wire.Reader).U8 : _ _ ⟨rfl, rfl⟩ => (rd.U8_fn _ _ _ _)
--REG (*rostrum/wire.Reader).U16 : _ _ ⟨rfl, rfl⟩ => (rd.U16_fn _ _ _ _)
theorem U16_fn (b : Nat) (l : List UInt8) (bad : Bool) (L : List SA) : Fn Try.prog 34 [pt b 0] (R b l bad :: L) (fun v L' => v = v16 (num (rdV 2 l bad)).toUInt16 ∧ L' = R b (rdL 2 l bad) (rdB 2 l bad) :: L) := by
  refine Fn.of (N := 6) Try.func34 rfl rfl ?_
  intro Xh
  refine TC.seq ?_
  refine TC.region ?_
  refine TL.val rfl rfl rfl (Y.assign rfl rfl) ?_
  refine TL.nil ?_
  refine TQ.next ?_
  refine TC.seq ?_
  refine TC.region ?_
  refine TL.val rfl rfl rfl (Y.move rfl rfl) ?_
  refine TL.eff rfl rfl rfl (X.call rfl Try.func47 (by kernel_rfl) rfl rfl (Fn.preE (by repeat first | (with_reducible apply Ent.refl) | (apply Ent.cons; case h => first | (with_reducible (repeat first | apply Pull.here | apply Pull.there); done) | (repeat first | apply Pull.here | apply Pull.there))) (rd.number_fn _ 2 _ _ (by omega) _))) ?_
  rintro _ _ ⟨rfl, rfl⟩
  refine TL.val rfl rfl rfl (Y.conv rfl Try.underlying22 Try.underlying40 rfl (cv_32_16)) ?_
  refine TL.val rfl rfl rfl (Y.assign rfl rfl) ?_
  refine TL.nil ?_
  refine TQ.next ?_
  refine TC.ret ?_
  refine TQ.retE (res1 rfl rfl) (⟨rfl, rfl⟩) ?_
  exact ett
--REG (*rostrum/wire.Reader).U32 : _ _ ⟨rfl, rfl⟩ => (rd.U32_fn _ _ _ _)
theorem U32_fn (b : Nat) (l : List UInt8) (bad : Bool) (L : List SA) : Fn Try.prog 27 [pt b 0] (R b l bad :: L) (fun v L' => v = v32 (num (rdV 4 l bad)) ∧ L' = R b (rdL 4 l bad) (rdB 4 l bad) :: L) := by
  refine Fn.of (N := 5) Try.func27 rfl rfl ?_
  intro Xh
  refine TC.seq ?_
  refine TC.region ?_
  refine TL.val rfl rfl rfl (Y.assign rfl rfl) ?_
  refine TL.nil ?_
  refine TQ.next ?_
  refine TC.seq ?_
  refine TC.region ?_
  refine TL.val rfl rfl rfl (Y.move rfl rfl) ?_
  refine TL.eff rfl rfl rfl (X.call rfl Try.func47 (by kernel_rfl) rfl rfl (Fn.preE (by repeat first | (with_reducible apply Ent.refl) | (apply Ent.cons; case h => first | (with_reducible (repeat first | apply Pull.here | apply Pull.there); done) | (repeat first | apply Pull.here | apply Pull.there))) (rd.number_fn _ 4 _ _ (by omega) _))) ?_
  rintro _ _ ⟨rfl, rfl⟩
  refine TL.val rfl rfl rfl (Y.assign rfl rfl) ?_
  refine TL.nil ?_
  refine TQ.next ?_
  refine TC.ret ?_
  refine TQ.retE (res1 rfl rfl) (⟨rfl, rfl⟩) ?_
  exact ett
--REG (*rostrum/wire.Reader).Take : _ _ ⟨a{d}, c{d}, rfl, rfl⟩ => (rd.Take_fn _ {1} _ _ (by omega) (by omega) _)
theorem Take_fn (b k : Nat) (l : List UInt8) (bad : Bool) (hk : k < 9223372036854775808) (hl : l.length ≤ 140737488351232) (L : List SA) : Fn Try.prog 35 [pt b 0, vN k] (R b l bad :: L)
    (fun v L' => ∃ a c, v = .slice a (rdV k l bad).length c ∧ L' = SA.owns 5 1 (.slice a (rdV k l bad).length c) (rdV k l bad).length ((rdV k l bad).map v8) :: R b (rdL k l bad) (rdB k l bad) :: L) := by
  have hV := rdV_len k l bad
  refine Fn.of (N := 9) Try.func35 rfl rfl ?_
  intro Xh
  refine TC.seq ?_
  refine TC.region ?_
  refine TL.val rfl rfl rfl (Y.assign rfl rfl) ?_
  refine TL.nil ?_
  refine TQ.next ?_
  refine TC.seq ?_
  refine TC.region ?_
  refine TL.val rfl rfl rfl (Y.move rfl rfl) ?_
  refine TL.val rfl rfl rfl (Y.move rfl rfl) ?_
  refine TL.eff rfl rfl rfl (X.call rfl Try.func51 (by kernel_rfl) rfl rfl (Fn.preE (by repeat first | (with_reducible apply Ent.refl) | (apply Ent.cons; case h => first | (with_reducible (repeat first | apply Pull.here | apply Pull.there); done) | (repeat first | apply Pull.here | apply Pull.there))) (rd.cut_fn _ _ _ _ (by omega) _))) ?_
  rintro _ _ ⟨a7, c7, rfl, rfl⟩
  refine TL.eff rfl rfl rfl (X.call rfl Try.func25 (by kernel_rfl) rfl rfl (Fn.preE (by repeat first | (with_reducible apply Ent.refl) | (apply Ent.cons; case h => first | (with_reducible (repeat first | apply Pull.here | apply Pull.there); done) | (repeat first | apply Pull.here | apply Pull.there))) (rd.Clone_fn _ _ _ _ (by first | assumption | rfl) (by omega) _))) ?_
  rintro _ _ ⟨a8, c8, rfl, rfl⟩
  refine TL.val rfl rfl rfl (Y.assign rfl rfl) ?_
  refine TL.nil ?_
  refine TQ.next ?_
  refine TC.ret ?_
  refine TQ.retE (res1 rfl rfl) (⟨_, _, rfl, rfl⟩) ?_
  exact ett
end rd
end Go.Proofs.Ytomplpdeeomehaa
