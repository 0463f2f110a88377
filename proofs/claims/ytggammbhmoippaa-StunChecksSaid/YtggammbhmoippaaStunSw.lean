/- The statements StunSigns and StunChecks, walked. -/
import Derived.Test.YtggammbhmoippaaStunCk
import Derived.Test.YtggammbhmoippaaStunSame
import Derived.Test.YtggammbhmoippaaStunO1
import Derived.Test.YtggammbhmoippaaStunBk
import Derived.Test.YtggammbhmoippaaOpenB
import Derived.Test.YtggammbhmoippaaHAuto
namespace Go.Proofs.Ytggammbhmoippaa
set_option linter.unusedVariables false
set_option linter.unusedSimpArgs false
open Go.ChangeShapes Go.WideShapes Go.ChangeAt Go.RowKit
namespace stun
namespace FxStunSw
set_option maxRecDepth 100000
theorem ag22 : Program.aggN Try.prog 22 = some 12 := by kernel_rfl
theorem ag25 : Program.aggN Try.prog 25 = some 15 := by kernel_rfl
theorem ag34 : Program.aggN Try.prog 34 = some 15 := by kernel_rfl
theorem eg22 : Program.eqGuardType Try.prog Try.prog.depth 22 = false := by kernel_rfl
theorem el27 : Elt Try.prog 27 5 1 1 (.int .u8 0) := ⟨Try.underlying27, by kernel_rfl, rfl, by decide, by simp [Value.cells, Value.oneCell']⟩
theorem fo25_0 : Program.fieldOff Try.prog 25 0 = some 0 := by kernel_rfl
theorem fo25_1 : Program.fieldOff Try.prog 25 1 = some 1 := by kernel_rfl
theorem fo25_2 : Program.fieldOff Try.prog 25 2 = some 2 := by kernel_rfl
theorem fo25_3 : Program.fieldOff Try.prog 25 3 = some 14 := by kernel_rfl
theorem fo34_0 : Program.fieldOff Try.prog 34 0 = some 0 := by kernel_rfl
theorem fo34_1 : Program.fieldOff Try.prog 34 1 = some 1 := by kernel_rfl
theorem fo34_2 : Program.fieldOff Try.prog 34 2 = some 2 := by kernel_rfl
theorem fo34_3 : Program.fieldOff Try.prog 34 3 = some 14 := by kernel_rfl
theorem sc23 : Program.isSc Try.prog 23 = true := by kernel_rfl
theorem sc3 : Program.isSc Try.prog 3 = true := by kernel_rfl
theorem sc32 : Program.isSc Try.prog 32 = true := by kernel_rfl
theorem sc5 : Program.isSc Try.prog 5 = true := by kernel_rfl
theorem sl27 : Program.slI Try.prog 27 = some 1 := by kernel_rfl
theorem sz5 : (Try.prog.info? 5).map (·.size) = some 1 := by kernel_rfl
theorem zc25 : Program.zeroC Try.prog 25 = some #[.int .i64 0, .int .i64 0, .int .u8 0, .int .u8 0, .int .u8 0, .int .u8 0, .int .u8 0, .int .u8 0, .int .u8 0, .int .u8 0, .int .u8 0, .int .u8 0, .int .u8 0, .int .u8 0, .slice none 0 0] := by kernel_rfl
theorem zc34 : Program.zeroC Try.prog 34 = some #[.int .i64 0, .int .i64 0, .int .u8 0, .int .u8 0, .int .u8 0, .int .u8 0, .int .u8 0, .int .u8 0, .int .u8 0, .int .u8 0, .int .u8 0, .int .u8 0, .int .u8 0, .int .u8 0, .slice none 0 0] := by kernel_rfl
end FxStunSw
open FxStunSw
theorem CR.len {b key : List UInt8} {c m : Int} {f : Nat → UInt8} {l : List At} {e : Nat} (h : CR b key c m f (l.map pl) e) : l.length ≤ 16 := by
  obtain ⟨c0, m0, f0, l0, e0, hp, h⟩ := h
  rcases h with ⟨rfl, -, -, rfl, rfl, -, h1, -⟩ | ⟨-, -, -, -, h1, -⟩
  · rcases hp with ⟨-, h⟩ | ⟨h, -⟩
    · have := (good_parts ((build_iff _ _).1 h).1).2.2.2.2.2
      rw [← h1] at this
      simpa only [List.length_map] using this
    · cases h
  · have : l = [] := by simpa using h1
    subst this; simp
theorem br_remU {m n : Nat} (h : 0 < n) : BR .rem .u64 m .u64 n (.int .u64 ((m % n : Nat) : Int)) := fun P w t => by
  have : ¬ (n = 0) := by omega
  simp [binOp, Op.intDiv, this, go_sem]
  exact Int.tmod_eq_emod_of_nonneg (by omega)
/-- an int, taken for a number without sign -/
def un (n : Int) : Nat := (n % 18446744073709551616).toNat
theorem cv_un (n : Int) : IntKind.u64.wrap n = (un n : Int) := by rw [wrap_u64, un]; omega
theorem ol_len {o : Option (List UInt8)} {k : Nat} (h : ∀ b, o = some b → b.length ≤ k) : (ob o).length ≤ k := by
  cases o with
  | none => simp [ob]
  | some b => exact h b rfl
theorem sgn_len {m : SMsg} {key b : List UInt8} (hid : m.id.length = 12) (h : m.sgn key = some b) : b.length ≤ 1500 := ((build_iff _ b).1 (sgn_sum hid h)).2.1
set_option maxHeartbeats 1000000 in
--REG rostrum/rostrumlaw04.judged : _ _ ⟨rfl, rfl⟩ => (stun.judged_fn _ _ _ _ (by first | assumption | rfl) (by omega) _ _ _ _ (by first | assumption | rfl) (by omega) _)
theorem judged_fn (a : Option Addr) (n cap : Nat) (b : List UInt8) (hn : b.length = n) (hr : n ≤ 140737488351232) (ka : Option Addr) (kn kc : Nat) (key : List UInt8) (hk : key.length = kn) (hkl : kn ≤ 140737488351232) (L : List SA) :
    Fn Try.prog 28 [.slice a n cap, .slice ka kn kc] (SA.rds 1 (.slice a n cap) n (b.map v8) :: SA.rds 1 (.slice ka kn kc) kn (key.map v8) :: L)
      (fun v L' => v = .bool true ∧ L' = SA.rds 1 (.slice a n cap) n (b.map v8) :: SA.rds 1 (.slice ka kn kc) kn (key.map v8) :: L) := by
  refine Fn.of (N := 34) Try.func28 rfl rfl ?_
  intro Xh
  refine TC.seq ?_
  refine TC.region ?_
  refine TL.val rfl rfl rfl (Y.assign rfl rfl) ?_
  refine TL.nil ?_
  refine TQ.next ?_
  refine TC.seq ?_
  refine TC.region ?_
  refine TL.val rfl rfl rfl (Y.move rfl rfl) ?_
  refine TL.val rfl rfl rfl (Y.move rfl rfl) ?_
  refine TL.eff rfl rfl rfl (X.call rfl Try.func53 (by kernel_rfl) rfl rfl (Fn.preE (by repeat first | (with_reducible apply Ent.refl) | (apply Ent.cons; case h => first | (with_reducible (repeat first | apply Pull.here | apply Pull.there); done) | (repeat first | apply Pull.here | apply Pull.there))) (refCheck_fn _ _ _ b hn hr _ _ _ key hk hkl _))) ?_
  rintro _ _ ⟨kc12, km12, kf12, ka12, kcap12, kl12, ke12, rfl, hC12, rfl⟩
  refine TL.val rfl rfl rfl (Y.move rfl rfl) ?_
  refine TL.val rfl rfl rfl (Y.extract rfl rfl rfl) ?_
  refine TL.val rfl rfl rfl (Y.extract rfl rfl rfl) ?_
  refine TL.eff rfl rfl rfl (X.alloc rfl zc25) ?_
  rintro _ _ ⟨b5, rfl, rfl⟩
  refine TL.eff0 rfl rfl (X.storeAll rfl (by kernel_rfl) (msgC_size _ _ _ _) rfl rfl (msg_one _ _ _ _ _ _) pul rfl) ?_
  rintro _ _ rfl
  refine TL.val rfl rfl rfl (Y.assign rfl rfl) ?_
  refine TL.nil ?_
  refine TQ.next ?_
  refine TC.seq ?_
  refine TC.region ?_
  refine TL.eff rfl rfl rfl (X.lit rfl el27 rfl rfl rfl (by decide) rfl) ?_
  rintro _ _ ⟨g16, rfl, rfl⟩
  refine TL.val rfl rfl rfl (Y.move rfl rfl) ?_
  refine TL.eff rfl rfl rfl (X.appendS rfl el27 rfl pul rfl (by first | exact Src.owns Try.underlying27 inn | exact Src.rds Try.underlying27 inn | exact Src.reads (by assumption) Try.underlying27 inn) (by simp only [maxLen]; omega) (by omega)) ?_
  rintro _ _ ⟨a18, c18, rfl, rfl⟩
  refine TL.eff rfl rfl rfl (X.lit rfl el27 rfl rfl rfl (by decide) rfl) ?_
  rintro _ _ ⟨g19, rfl, rfl⟩
  refine TL.val rfl rfl rfl (Y.move rfl rfl) ?_
  refine TL.eff rfl rfl rfl (X.appendS rfl el27 rfl pul rfl (by first | exact Src.owns Try.underlying27 inn | exact Src.rds Try.underlying27 inn | exact Src.reads (by assumption) Try.underlying27 inn) (by simp only [maxLen]; omega) (by omega)) ?_
  rintro _ _ ⟨a21, c21, rfl, rfl⟩
  simp only [Nat.zero_add, List.nil_append]
  refine TL.to ((Pull.ent (A := SA.owns 5 1 (.slice a18 n c18) n (b.map v8)) pul).trans Ent.freeze) ?_
  refine TL.to ((Pull.ent (A := SA.owns 5 1 (.slice a21 kn c21) kn (key.map v8)) pul).trans Ent.freeze) ?_
  refine TL.eff rfl rfl rfl (X.call rfl Try.func27 (by kernel_rfl) rfl rfl (Fn.preE (by repeat first | (with_reducible apply Ent.refl) | (apply Ent.cons; case h => first | (with_reducible (repeat first | apply Pull.here | apply Pull.there); done) | (repeat first | apply Pull.here | apply Pull.there))) (Check_fn _ _ _ b hn hr _ _ _ key hk hkl _))) ?_
  rintro _ _ ⟨kc22, km22, kf22, ka22, kcap22, kl22, ke22, rfl, hC22, rfl⟩
  refine TL.val rfl rfl rfl (Y.move rfl rfl) ?_
  refine TL.val rfl rfl rfl (Y.extract rfl rfl rfl) ?_
  refine TL.val rfl rfl rfl (Y.extract rfl rfl rfl) ?_
  refine TL.eff rfl rfl rfl (X.alloc rfl zc34) ?_
  rintro _ _ ⟨b7, rfl, rfl⟩
  refine TL.eff0 rfl rfl (X.storeAll rfl (by kernel_rfl) (msgC_size _ _ _ _) rfl rfl (msg_one _ _ _ _ _ _) pul rfl) ?_
  rintro _ _ rfl
  refine TL.val rfl rfl rfl (Y.assign rfl rfl) ?_
  refine TL.nil ?_
  refine TQ.next ?_
  refine TC.seq ?_
  obtain ⟨e1, e2, hid, hl, e5⟩ := hC22.one hC12
  have hl16 : kl22.length * 32 ≤ 140737488351232 := by have := hC22.len; omega
  subst e1; subst e2; subst e5
  refine TC.draws 7 [SA.blk b5 (msgC kc22 km22 kf12 (.slice ka12 kl12.length kcap12)) 25, SA.blk b7 (msgC kc22 km22 kf22 (.slice ka22 kl22.length kcap22)) 34] (by kernel_rfl) (by kernel_rfl) (by repeat first | exact holds_nil | refine holds_cons inn ?_) ?_
  refine TA.takeP 0 rfl rfl rfl rfl (by kernel_rfl) (by kernel_rfl) (by kernel_rfl) rfl (fun _ _ _ h => h) (Y.move rfl rfl) ?_
  refine TA.takeP 1 rfl rfl rfl rfl (by kernel_rfl) (by kernel_rfl) (by kernel_rfl) rfl (fun _ _ _ h => h) (Y.move rfl rfl) ?_
  refine TA.takeP 2 rfl rfl rfl rfl (by kernel_rfl) (by kernel_rfl) (by kernel_rfl) rfl (fun _ _ _ h => h) (Y.bin rfl rfl rfl (br_eqN)) ?_
  refine TA.is true (by first | rfl | (simp only [decide_eq_true_eq, decide_eq_false_iff_not, Bool.not_eq_true', Bool.not_eq_false', Bool.not_eq_eq_eq_not, Bool.not_true, Bool.not_false, Nat.not_lt, Nat.not_le]; omega) | (simp [*]; done) | (simp; omega)) ?_
  refine TA.take 3 rfl rfl rfl rfl (by kernel_rfl) (by kernel_rfl) (by kernel_rfl) rfl (by kernel_rfl) (by kernel_rfl) (fun _ _ _ h => h) (Y.move rfl rfl) ?_
  refine TA.take 6 rfl rfl rfl rfl (by kernel_rfl) (by kernel_rfl) (by kernel_rfl) rfl (by kernel_rfl) (by kernel_rfl) (fun _ _ _ h => h) (Y.loadAgg rfl ag25 rfl (Cels.all (cs := msgC kc22 km22 kf12 (.slice ka12 kl12.length kcap12)) inn) (by first | rfl | ((try simp only [List.length_map, List.length_set, List.length_replicate]); omega))) ?_
  refine TA.as (.agg (msgC kc22 km22 kf12 (.slice ka12 kl12.length kcap12))) (by rfl) ?_
  refine TA.one 4 (by kernel_rfl) rfl rfl rfl rfl (Eff.val (fun _ h => by cases h) (Y.loadAgg rfl ag34 rfl (Cels.all (cs := msgC kc22 km22 kf22 (.slice ka22 kl22.length kcap22)) inn) (by first | rfl | ((try simp only [List.length_map, List.length_set, List.length_replicate]); omega)))) ?_
  rintro _ _ ⟨rfl, rfl⟩
  refine ⟨Or.inr (by repeat first | exact holds_nil | refine holds_cons inn ?_), ?_⟩
  refine TA.as (.agg (msgC kc22 km22 kf22 (.slice ka22 kl22.length kcap22))) (by rfl) ?_
  refine TA.one 5 (by kernel_rfl) rfl rfl rfl rfl (X.call rfl Try.func16 (by kernel_rfl) rfl rfl (Fn.preE (by repeat first | (with_reducible apply Ent.refl) | (apply Ent.cons; case h => first | (with_reducible (repeat first | apply Pull.here | apply Pull.there); done) | (repeat first | apply Pull.here | apply Pull.there))) (stun.ours_fn _ _ _ _ _ _ (by assumption) _))) ?_
  rintro _ _ ⟨oa30, oc30, rfl, rfl⟩
  refine ⟨(Or.inr (by repeat first | exact holds_nil | refine holds_cons inn ?_)), ?_⟩
  refine TA.one 7 (by kernel_rfl) rfl rfl rfl rfl (X.call rfl Try.func15 (by kernel_rfl) rfl rfl (Fn.preE (by repeat first | (with_reducible apply Ent.refl) | (apply Ent.cons; case h => first | (with_reducible (repeat first | apply Pull.here | apply Pull.there); done) | (repeat first | apply Pull.here | apply Pull.there))) (stun.Same_fn _ _ _ _ _ _ _ _ _ _ (by first | assumption | rfl) (by first | assumption | rfl) _))) ?_
  rintro _ _ ⟨rfl, rfl⟩
  refine ⟨(Or.inl (by kernel_rfl)), ?_⟩
  refine TA.takeP 8 rfl rfl rfl rfl (by kernel_rfl) (by kernel_rfl) (by kernel_rfl) rfl (fun _ _ _ h => h) (Y.pick_t rfl rfl rfl) ?_
  refine TA.takeP 9 rfl rfl rfl rfl (by kernel_rfl) (by kernel_rfl) (by kernel_rfl) rfl (fun _ _ _ h => h) (Y.assign rfl rfl) ?_
  refine TA.done (by kernel_rfl) ?_
  refine TQ.next ?_
  refine TC.ret ?_
  refine TQ.retE (res1 rfl rfl) (⟨rfl, rfl⟩) ?_
  exact ett
set_option maxHeartbeats 2000000 in
theorem signs_fn (c m : Int) (f : Nat → UInt8) (a : Option Addr) (cap : Nat) (l : List At) (hl : l.length * 32 ≤ 140737488351232) (hb : ∀ x ∈ l, x.2.l.length ≤ 140737488351232)
    (ka : Option Addr) (kn kc : Nat) (key : List UInt8) (hk : key.length = kn) (hkl : kn ≤ 140737488351232) (L : List SA) :
    Fn Try.prog 7 [.agg (msgC c m f (.slice a l.length cap)), .slice ka kn kc] (SA.dat (⟨a, cap, l⟩ : Sl At) :: SA.rds 1 (.slice ka kn kc) kn (key.map v8) :: L)
      (fun v L' => v = .bool true ∧ L' = SA.dat (⟨a, cap, l⟩ : Sl At) :: SA.rds 1 (.slice ka kn kc) kn (key.map v8) :: L) := by
  refine Fn.of (N := 81) Try.func7 rfl rfl ?_
  intro Xh
  refine TC.seq ?_
  refine TC.region ?_
  refine TL.eff rfl rfl rfl (X.boxA rfl rfl) ?_
  rintro _ _ ⟨b2, rfl, rfl⟩
  refine TL.val rfl rfl rfl (Y.assign rfl rfl) ?_
  refine TL.nil ?_
  refine TQ.next ?_
  refine TC.seq ?_
  refine TC.seq ?_
  refine TC.region ?_
  refine TL.eff rfl rfl rfl (X.call rfl Try.func9 (by kernel_rfl) rfl rfl (Fn.preE (by repeat first | (with_reducible apply Ent.refl) | (apply Ent.cons; case h => first | (with_reducible (repeat first | apply Pull.here | apply Pull.there); done) | (repeat first | apply Pull.here | apply Pull.there))) (stun.awake_fn _))) ?_
  rintro _ _ ⟨rfl, rfl⟩
  refine TL.val rfl rfl rfl (Y.not rfl rfl) ?_
  refine TL.nil ?_
  refine TQ.next ?_
  refine TC.cond_f rfl ?_
  refine TC.skip ?_
  refine TQ.next ?_
  refine TC.seq ?_
  refine TC.region ?_
  refine TL.val rfl rfl rfl (Y.loadAgg rfl ag25 rfl (Cels.all (cs := msgC c m f (.slice a l.length cap)) inn) (by first | rfl | ((try simp only [List.length_map, List.length_set, List.length_replicate]); omega))) ?_
  refine TL.as (.agg (msgC c m f (.slice a l.length cap))) (by rfl) ?_
  refine TL.val rfl rfl rfl (Y.move rfl rfl) ?_
  refine TL.eff rfl rfl rfl (X.call rfl Try.func25 (by kernel_rfl) rfl rfl (Fn.preE (by repeat first | (with_reducible apply Ent.refl) | (apply Ent.cons; case h => first | (with_reducible (repeat first | apply Pull.here | apply Pull.there); done) | (repeat first | apply Pull.here | apply Pull.there))) (refSign_fn c m f a cap l _ _ _ key hk hkl hl _))) ?_
  rintro _ _ ⟨a16, c16, rfl, rfl⟩
  have hol : (ob ((SM c m f ⟨a, cap, l⟩).sgn key)).length ≤ 1500 := ol_len fun b e => sgn_len rfl e
  obtain ⟨o, ho⟩ : ∃ o, o = (SM c m f ⟨a, cap, l⟩).sgn key := ⟨_, rfl⟩
  rw [← ho]
  rw [← ho] at hol
  refine TL.val rfl rfl rfl (Y.move rfl rfl) ?_
  refine TL.val rfl rfl rfl (Y.extract rfl rfl rfl) ?_
  refine TL.val rfl rfl rfl (Y.extract rfl rfl rfl) ?_
  refine TL.val rfl rfl rfl (Y.assign rfl rfl) ?_
  refine TL.val rfl rfl rfl (Y.assign rfl rfl) ?_
  refine TL.nil ?_
  refine TQ.next ?_
  refine TC.seq ?_
  refine TC.region ?_
  refine TL.val rfl rfl rfl (Y.loadAgg rfl ag25 rfl (Cels.all (cs := msgC c m f (.slice a l.length cap)) inn) (by first | rfl | ((try simp only [List.length_map, List.length_set, List.length_replicate]); omega))) ?_
  refine TL.as (.agg (msgC c m f (.slice a l.length cap))) (by rfl) ?_
  refine TL.eff rfl rfl rfl (X.call rfl Try.func12 (by kernel_rfl) rfl rfl (Fn.preE (by repeat first | (with_reducible apply Ent.refl) | (apply Ent.cons; case h => first | (with_reducible (repeat first | apply Pull.here | apply Pull.there); done) | (repeat first | apply Pull.here | apply Pull.there))) (stun.theirs_fn _ _ _ _ _ _ (by assumption) (by assumption) _))) ?_
  rintro _ _ ⟨ta21, tc21, tl21, rfl, htl21, rfl⟩
  refine TL.eff rfl rfl rfl (X.lit rfl el27 rfl rfl rfl (by decide) rfl) ?_
  rintro _ _ ⟨g22, rfl, rfl⟩
  refine TL.val rfl rfl rfl (Y.move rfl rfl) ?_
  refine TL.eff rfl rfl rfl (X.appendS rfl el27 rfl pul rfl (by first | exact Src.owns Try.underlying27 inn | exact Src.rds Try.underlying27 inn | exact Src.reads (by assumption) Try.underlying27 inn) (by simp only [maxLen]; omega) (by omega)) ?_
  rintro _ _ ⟨a24, c24, rfl, rfl⟩
  simp only [Nat.zero_add, List.nil_append]
  refine TL.to ((Pull.ent (A := SA.owns 5 1 (.slice a24 kn c24) kn (key.map v8)) pul).trans Ent.freeze) ?_
  refine TL.eff rfl rfl rfl (X.call rfl Try.func26 (by kernel_rfl) rfl rfl (Fn.preE (by repeat first | (with_reducible apply Ent.refl) | (apply Ent.cons; case h => first | (with_reducible (repeat first | apply Pull.here | apply Pull.there); done) | (repeat first | apply Pull.here | apply Pull.there))) (Sign_fn c m f ta21 tc21 tl21 _ _ _ key hk hkl _))) ?_
  rintro _ _ ⟨a25, c25, rfl, rfl⟩
  rw [show SM c m f ⟨ta21, tc21, tl21⟩ = SM c m f ⟨a, cap, l⟩ by simp only [SM, htl21], ← ho]
  refine TL.val rfl rfl rfl (Y.move rfl rfl) ?_
  refine TL.val rfl rfl rfl (Y.extract rfl rfl rfl) ?_
  refine TL.val rfl rfl rfl (Y.extract rfl rfl rfl) ?_
  refine TL.val rfl rfl rfl (Y.assign rfl rfl) ?_
  refine TL.val rfl rfl rfl (Y.assign rfl rfl) ?_
  refine TL.nil ?_
  refine TQ.next ?_
  refine TC.seq ?_
  refine TC.seq ?_
  refine TC.region ?_
  refine TL.val rfl rfl rfl (Y.move rfl rfl) ?_
  refine TL.val rfl rfl rfl (Y.move rfl rfl) ?_
  refine TL.val rfl rfl rfl (Y.bin rfl rfl rfl (br_neN)) ?_
  refine TL.is false (by first | rfl | (simp only [decide_eq_true_eq, decide_eq_false_iff_not, Bool.not_eq_true', Bool.not_eq_false', Bool.not_eq_eq_eq_not, Bool.not_true, Bool.not_false, Nat.not_lt, Nat.not_le]; omega) | (simp [*]; done) | (simp; omega)) ?_
  refine TL.val rfl rfl rfl (Y.move rfl rfl) ?_
  refine TL.valG rfl rfl rfl (Y.move rfl rfl) ?_
  refine TL.valG rfl rfl rfl (by first | exact Y.str rfl Try.underlying27 Try.underlying9 Try.underlying5 rfl Reads.rds inn | exact Y.str rfl Try.underlying27 Try.underlying9 Try.underlying5 rfl Reads.owns inn | exact Y.str rfl Try.underlying27 Try.underlying9 Try.underlying5 rfl (by assumption) inn) ?_
  refine TL.valG rfl rfl rfl (Y.move rfl rfl) ?_
  refine TL.valG rfl rfl rfl (by first | exact Y.str rfl Try.underlying27 Try.underlying9 Try.underlying5 rfl Reads.rds inn | exact Y.str rfl Try.underlying27 Try.underlying9 Try.underlying5 rfl Reads.owns inn | exact Y.str rfl Try.underlying27 Try.underlying9 Try.underlying5 rfl (by assumption) inn) ?_
  refine TL.valG rfl rfl rfl (Y.neStr rfl rfl rfl) ?_
  refine TL.is false (by first | rfl | (simp only [decide_eq_true_eq, decide_eq_false_iff_not, Bool.not_eq_true', Bool.not_eq_false', Bool.not_eq_eq_eq_not, Bool.not_true, Bool.not_false, Nat.not_lt, Nat.not_le]; omega) | (simp [*]; done) | (simp; omega)) ?_
  refine TL.val rfl rfl rfl (Y.pick_f rfl rfl rfl) ?_
  refine TL.nil ?_
  refine TQ.next ?_
  refine TC.cond_f rfl ?_
  refine TC.skip ?_
  refine TQ.next ?_
  refine TC.seq ?_
  refine TC.seq ?_
  refine TC.region ?_
  refine TL.val rfl rfl rfl (Y.move rfl rfl) ?_
  refine TL.val rfl rfl rfl (Y.bin rfl rfl rfl (br_neN (n := 0))) ?_
  refine TL.nil ?_
  refine TQ.next ?_
  refine TC.cond rfl (fun c2 => ?_) (fun c2 => ?_)
  · try simp only [decide_eq_true_eq, decide_eq_false_iff_not, Bool.not_eq_true', Bool.not_eq_false', Bool.and_eq_true, Bool.or_eq_true, Nat.not_lt, Nat.not_le, beq_iff_eq, bne_iff_ne] at c2
    refine TC.seq ?_
    refine TC.region ?_
    refine TL.val rfl rfl rfl (Y.assign rfl rfl) ?_
    refine TL.nil ?_
    refine TQ.next ?_
    refine TC.ret ?_
    refine TQ.then_ret ?_
    refine TQ.retE (res1 rfl rfl) (⟨rfl, rfl⟩) ?_
    exact ett
  · try simp only [decide_eq_true_eq, decide_eq_false_iff_not, Bool.not_eq_true', Bool.not_eq_false', Bool.and_eq_true, Bool.or_eq_true, Nat.not_lt, Nat.not_le, beq_iff_eq, bne_iff_ne] at c2
    have hso : (SM c m f ⟨a, cap, l⟩).sgn key = some (ob o) := ho.symm.trans (ob_some c2)
    refine TC.to ((Pull.ent (A := SA.owns 5 1 (.slice a25 (ob o).length c25) (ob o).length ((ob o).map v8)) pul).trans Ent.freeze) ?_
    refine TC.skip ?_
    refine TQ.next ?_
    refine TC.seq ?_
    refine TC.region ?_
    refine TL.val rfl rfl rfl (Y.move rfl rfl) ?_
    refine TL.eff rfl rfl rfl (X.lit rfl el27 rfl rfl rfl (by decide) rfl) ?_
    rintro _ _ ⟨g42, rfl, rfl⟩
    refine TL.val rfl rfl rfl (Y.move rfl rfl) ?_
    refine TL.eff rfl rfl rfl (X.appendS rfl el27 rfl pul rfl (by first | exact Src.owns Try.underlying27 inn | exact Src.rds Try.underlying27 inn | exact Src.reads (by assumption) Try.underlying27 inn) (by simp only [maxLen]; omega) (by omega)) ?_
    rintro _ _ ⟨a44, c44, rfl, rfl⟩
    simp only [Nat.zero_add, List.nil_append]
    refine TL.to ((Pull.ent (A := SA.owns 5 1 (.slice a44 kn c44) kn (key.map v8)) pul).trans Ent.freeze) ?_
    refine TL.eff rfl rfl rfl (X.call rfl Try.func27 (by kernel_rfl) rfl rfl (Fn.preE (by repeat first | (with_reducible apply Ent.refl) | (apply Ent.cons; case h => first | (with_reducible (repeat first | apply Pull.here | apply Pull.there); done) | (repeat first | apply Pull.here | apply Pull.there))) (Check_fn _ _ _ (ob o) rfl (by omega) _ _ _ key hk hkl _))) ?_
    rintro _ _ ⟨kc45, km45, kf45, ka45, kcap45, kl45, ke45, rfl, hC45, rfl⟩
    obtain ⟨e1, e2, e3, e4, e5⟩ := CR.signed (f0 := f) rfl hso hC45
    rw [List.length_map, show (SM c m f ⟨a, cap, l⟩).attrs = l.map pl from rfl, List.length_map] at e2
    rw [show (SM c m f ⟨a, cap, l⟩).mth = m from rfl] at e4
    rw [show (SM c m f ⟨a, cap, l⟩).cls = c from rfl] at e5
    subst e1; subst e4; subst e5
    refine TL.val rfl rfl rfl (Y.move rfl rfl) ?_
    refine TL.val rfl rfl rfl (Y.extract rfl rfl rfl) ?_
    refine TL.val rfl rfl rfl (Y.extract rfl rfl rfl) ?_
    refine TL.eff rfl rfl rfl (X.alloc rfl zc34) ?_
    rintro _ _ ⟨b9, rfl, rfl⟩
    refine TL.eff0 rfl rfl (X.storeAll rfl (by kernel_rfl) (msgC_size _ _ _ _) rfl rfl (msg_one _ _ _ _ _ _) pul rfl) ?_
    rintro _ _ rfl
    refine TL.val rfl rfl rfl (Y.assign rfl rfl) ?_
    refine TL.nil ?_
    refine TQ.next ?_
    refine TC.seq ?_
    refine TC.region ?_
    refine TL.val rfl rfl rfl (Y.move rfl rfl) ?_
    refine TL.val rfl rfl rfl (Y.bin rfl rfl rfl (br_eqN (n := 0))) ?_
    refine TL.is true (by first | rfl | (simp only [decide_eq_true_eq, decide_eq_false_iff_not, Bool.not_eq_true', Bool.not_eq_false', Bool.not_eq_eq_eq_not, Bool.not_true, Bool.not_false, Nat.not_lt, Nat.not_le]; omega) | (simp [*]; done) | (simp; omega)) ?_
    refine TL.val rfl rfl rfl (Y.move rfl rfl) ?_
    refine TL.valG rfl rfl rfl (by first | exact Y.fieldAddrJ rfl fo34_3 rfl nqq | exact Y.fieldAddr rfl fo34_3 rfl nqq) ?_
    refine TL.valG rfl rfl rfl (Y.load rfl sc32 rfl celD) ?_
    refine TL.as (.slice ka45 kl45.length kcap45) (by rfl) ?_
    refine TL.valG rfl rfl rfl (Y.len rfl Try.underlying32 rfl) ?_
    refine TL.valG rfl rfl rfl (by first | exact Y.fieldAddrJ rfl fo25_3 rfl nqq | exact Y.fieldAddr rfl fo25_3 rfl nqq) ?_
    refine TL.valG rfl rfl rfl (Y.load rfl sc23 rfl celD) ?_
    refine TL.as (.slice a l.length cap) (by rfl) ?_
    refine TL.valG rfl rfl rfl (Y.len rfl Try.underlying23 rfl) ?_
    refine TL.valG rfl rfl rfl (Y.bin rfl rfl rfl (br_addN (n := 2) (by omega))) ?_
    refine TL.valG rfl rfl rfl (Y.bin rfl rfl rfl (br_eqN)) ?_
    refine TL.is true (by first | rfl | (simp only [decide_eq_true_eq, decide_eq_false_iff_not, Bool.not_eq_true', Bool.not_eq_false', Bool.not_eq_eq_eq_not, Bool.not_true, Bool.not_false, Nat.not_lt, Nat.not_le]; omega) | (simp [*]; done) | (simp; omega)) ?_
    refine TL.val rfl rfl rfl (Y.pick_t rfl rfl rfl) ?_
    refine TL.val rfl rfl rfl (Y.move rfl rfl) ?_
    refine TL.valG rfl rfl rfl (by first | exact Y.fieldAddrJ rfl fo34_2 rfl nqq | exact Y.fieldAddr rfl fo34_2 rfl nqq) ?_
    refine TL.valG rfl rfl rfl (Y.loadAgg rfl ag22 rfl (Cels.blk inn (cs := msgC kc45 km45 kf45 (.slice ka45 kl45.length kcap45)) (l := (idL kf45).map v8) (msg_id _ _ _ _)) (by first | rfl | ((try simp only [List.length_map, List.length_set, List.length_replicate]); omega))) ?_
    refine TL.valG rfl rfl rfl (by first | exact Y.fieldAddrJ rfl fo25_2 rfl nqq | exact Y.fieldAddr rfl fo25_2 rfl nqq) ?_
    refine TL.valG rfl rfl rfl (Y.loadAgg rfl ag22 rfl (Cels.blk inn (cs := msgC kc45 km45 f (.slice a l.length cap)) (l := (idL f).map v8) (msg_id _ _ _ _)) (by first | rfl | ((try simp only [List.length_map, List.length_set, List.length_replicate]); omega))) ?_
    refine TL.valG rfl rfl rfl (Y.eqArr8 rfl Try.underlying22 Try.underlying5 sz5 eg22 rfl rfl szz szz) ?_
    refine TL.is true (by first | rfl | (simp only [decide_eq_true_eq, decide_eq_false_iff_not, Bool.not_eq_true', Bool.not_eq_false', Bool.not_eq_eq_eq_not, Bool.not_true, Bool.not_false, Nat.not_lt, Nat.not_le]; omega) | (simp [*]; done) | (simp; omega)) ?_
    refine TL.val rfl rfl rfl (Y.pick_t rfl rfl rfl) ?_
    refine TL.val rfl rfl rfl (Y.move rfl rfl) ?_
    refine TL.valG rfl rfl rfl (by first | exact Y.fieldAddrJ rfl fo34_1 rfl nqq | exact Y.fieldAddr rfl fo34_1 rfl nqq) ?_
    refine TL.valG rfl rfl rfl (Y.load rfl sc3 rfl celN) ?_
    refine TL.valG rfl rfl rfl (by first | exact Y.fieldAddrJ rfl fo25_1 rfl nqq | exact Y.fieldAddr rfl fo25_1 rfl nqq) ?_
    refine TL.valG rfl rfl rfl (Y.load rfl sc3 rfl celN) ?_
    refine TL.valG rfl rfl rfl (Y.bin rfl rfl rfl br_eqI) ?_
    refine TL.is true (by first | rfl | (simp only [decide_eq_true_eq, decide_eq_false_iff_not, Bool.not_eq_true', Bool.not_eq_false', Bool.not_eq_eq_eq_not, Bool.not_true, Bool.not_false, Nat.not_lt, Nat.not_le]; omega) | (simp [*]; done) | (simp; omega)) ?_
    refine TL.val rfl rfl rfl (Y.pick_t rfl rfl rfl) ?_
    refine TL.val rfl rfl rfl (Y.move rfl rfl) ?_
    refine TL.valG rfl rfl rfl (by first | exact Y.fieldAddrJ rfl fo34_0 rfl nqq | exact Y.fieldAddr rfl fo34_0 rfl nqq) ?_
    refine TL.valG rfl rfl rfl (Y.load rfl sc3 rfl celN) ?_
    refine TL.valG rfl rfl rfl (by first | exact Y.fieldAddrJ rfl fo25_0 rfl nqq | exact Y.fieldAddr rfl fo25_0 rfl nqq) ?_
    refine TL.valG rfl rfl rfl (Y.load rfl sc3 rfl celN) ?_
    refine TL.valG rfl rfl rfl (Y.bin rfl rfl rfl br_eqI) ?_
    refine TL.is true (by first | rfl | (simp only [decide_eq_true_eq, decide_eq_false_iff_not, Bool.not_eq_true', Bool.not_eq_false', Bool.not_eq_eq_eq_not, Bool.not_true, Bool.not_false, Nat.not_lt, Nat.not_le]; omega) | (simp [*]; done) | (simp; omega)) ?_
    refine TL.val rfl rfl rfl (Y.pick_t rfl rfl rfl) ?_
    refine TL.val rfl rfl rfl (Y.assign rfl rfl) ?_
    refine TL.nil ?_
    refine TQ.next ?_
    refine TC.ret ?_
    refine TQ.retE (res1 rfl rfl) (⟨rfl, rfl⟩) ?_
    exact ett
set_option maxHeartbeats 2000000 in
theorem checks_fn (c m : Int) (f : Nat → UInt8) (a : Option Addr) (cap : Nat) (l : List At) (hl : l.length * 32 ≤ 140737488351232) (hb : ∀ x ∈ l, x.2.l.length ≤ 140737488351232)
    (ka : Option Addr) (kn kc : Nat) (key : List UInt8) (hk : key.length = kn) (hkl : kn ≤ 140737488351232) (oa : Option Addr) (on oc : Nat) (oth : List UInt8) (hok : oth.length = on) (hol : on ≤ 140737488351232)
    (ba : Option Addr) (bn bc : Nat) (b : List UInt8) (hbn : b.length = bn) (hbl : bn ≤ 140737488351232) (p : Int) (y : UInt8) (L : List SA) :
    Fn Try.prog 8 [.agg (msgC c m f (.slice a l.length cap)), .slice ka kn kc, .slice oa on oc, .slice ba bn bc, vI p, v8 y] (SA.dat (⟨a, cap, l⟩ : Sl At) :: SA.rds 1 (.slice ka kn kc) kn (key.map v8) :: SA.rds 1 (.slice oa on oc) on (oth.map v8) :: SA.rds 1 (.slice ba bn bc) bn (b.map v8) :: L)
      (fun v L' => v = .bool true ∧ L' = SA.dat (⟨a, cap, l⟩ : Sl At) :: SA.rds 1 (.slice ka kn kc) kn (key.map v8) :: SA.rds 1 (.slice oa on oc) on (oth.map v8) :: SA.rds 1 (.slice ba bn bc) bn (b.map v8) :: L) := by
  refine Fn.of (N := 56) Try.func8 rfl rfl ?_
  intro Xh
  refine TC.seq ?_
  refine TC.region ?_
  refine TL.eff rfl rfl rfl (X.boxA rfl rfl) ?_
  rintro _ _ ⟨b6, rfl, rfl⟩
  refine TL.val rfl rfl rfl (Y.assign rfl rfl) ?_
  refine TL.nil ?_
  refine TQ.next ?_
  refine TC.seq ?_
  refine TC.seq ?_
  refine TC.region ?_
  refine TL.eff rfl rfl rfl (X.call rfl Try.func9 (by kernel_rfl) rfl rfl (Fn.preE (by repeat first | (with_reducible apply Ent.refl) | (apply Ent.cons; case h => first | (with_reducible (repeat first | apply Pull.here | apply Pull.there); done) | (repeat first | apply Pull.here | apply Pull.there))) (stun.awake_fn _))) ?_
  rintro _ _ ⟨rfl, rfl⟩
  refine TL.val rfl rfl rfl (Y.not rfl rfl) ?_
  refine TL.nil ?_
  refine TQ.next ?_
  refine TC.cond_f rfl ?_
  refine TC.skip ?_
  refine TQ.next ?_
  refine TC.seq ?_
  refine TC.region ?_
  refine TL.val rfl rfl rfl (Y.loadAgg rfl ag25 rfl (Cels.all (cs := msgC c m f (.slice a l.length cap)) inn) (by first | rfl | ((try simp only [List.length_map, List.length_set, List.length_replicate]); omega))) ?_
  refine TL.as (.agg (msgC c m f (.slice a l.length cap))) (by rfl) ?_
  refine TL.val rfl rfl rfl (Y.move rfl rfl) ?_
  refine TL.eff rfl rfl rfl (X.call rfl Try.func25 (by kernel_rfl) rfl rfl (Fn.preE (by repeat first | (with_reducible apply Ent.refl) | (apply Ent.cons; case h => first | (with_reducible (repeat first | apply Pull.here | apply Pull.there); done) | (repeat first | apply Pull.here | apply Pull.there))) (refSign_fn c m f a cap l _ _ _ key hk hkl hl _))) ?_
  rintro _ _ ⟨a20, c20, rfl, rfl⟩
  have hol2 : (ob ((SM c m f ⟨a, cap, l⟩).sgn key)).length ≤ 1500 := ol_len fun b e => sgn_len rfl e
  obtain ⟨s, hs⟩ : ∃ s, s = ob ((SM c m f ⟨a, cap, l⟩).sgn key) := ⟨_, rfl⟩
  rw [← hs]
  rw [← hs] at hol2
  refine TL.val rfl rfl rfl (Y.move rfl rfl) ?_
  refine TL.val rfl rfl rfl (Y.extract rfl rfl rfl) ?_
  refine TL.val rfl rfl rfl (Y.extract rfl rfl rfl) ?_
  refine TL.val rfl rfl rfl (Y.assign rfl rfl) ?_
  refine TL.val rfl rfl rfl (Y.assign rfl rfl) ?_
  refine TL.nil ?_
  refine TQ.next ?_
  refine TC.cutF (ι := List UInt8) [] (fun s' => s'.length = s.length) (fun s' => []) (fun s' => [SA.owns 5 1 (.slice a20 s.length c20) s.length (s'.map v8)]) (Ao := [SA.owns 5 1 (.slice a20 s.length c20) s.length (s.map v8)]) (Pulls.cons pul Pulls.nil) ?_ ?_
  · rintro L' hL'
    simp only [List.cons_append, List.nil_append] at hL'
    subst hL'
    refine TC.seq ?_
    refine TC.region ?_
    refine TL.val rfl rfl rfl (Y.move rfl rfl) ?_
    refine TL.val rfl rfl rfl (Y.bin rfl rfl rfl (br_eqN (n := 0))) ?_
    refine TL.val rfl rfl rfl (Y.move rfl rfl) ?_
    refine TL.case (fun g4_2 => ?_) (fun g4_2 => ?_)
    · try simp only [decide_eq_true_eq, decide_eq_false_iff_not, Bool.not_eq_true', Bool.not_eq_false', Nat.not_lt, Nat.not_le, beq_iff_eq, bne_iff_ne] at g4_2
      refine TL.valG rfl rfl rfl (Y.move rfl rfl) ?_
      refine TL.valG rfl rfl rfl (Y.len rfl Try.underlying27 rfl) ?_
      refine TL.valG rfl rfl rfl (Y.bin rfl rfl rfl (br_gtN (n := 0))) ?_
      refine TL.val rfl rfl rfl (Y.pick_t rfl rfl rfl) ?_
      refine TL.nil ?_
      refine TQ.next ?_
      refine TC.cond rfl (fun c1 => ?_) (fun c1 => ?_)
      · try simp only [decide_eq_true_eq, decide_eq_false_iff_not, Bool.not_eq_true', Bool.not_eq_false', Bool.and_eq_true, Bool.or_eq_true, Nat.not_lt, Nat.not_le, beq_iff_eq, bne_iff_ne] at c1
        obtain ⟨hs0, hs1⟩ : 0 < s.length ∧ True := by (constructor; (first | exact g4_2 | exact c1 | omega); trivial)
        refine TC.know (owns_some (a := a20) inn hs0) ?_
        rintro ⟨g, off, rfl⟩
        have hmod := Nat.mod_lt (un p) hs0
        refine TC.region ?_
        refine TL.val rfl rfl rfl (Y.move rfl rfl) ?_
        refine TL.val rfl rfl rfl (Y.move rfl rfl) ?_
        refine TL.val rfl rfl rfl (Y.conv rfl Try.underlying3 Try.underlying61 rfl (cv_un p)) ?_
        refine TL.val rfl rfl rfl (Y.move rfl rfl) ?_
        refine TL.val rfl rfl rfl (Y.len rfl Try.underlying27 rfl) ?_
        refine TL.val rfl rfl rfl (Y.conv rfl Try.underlying3 Try.underlying61 rfl (cv_N_64n (by omega))) ?_
        refine TL.val rfl rfl rfl (Y.bin rfl rfl rfl (br_remU (by omega))) ?_
        refine TL.val rfl rfl rfl (Y.conv rfl Try.underlying61 Try.underlying3 rfl (cv_64n_N (by omega))) ?_
        refine TL.val rfl rfl rfl (by first | exact Y.indexSlB rfl sl27 rfl rfl (by omega) nqq | exact Y.indexSl rfl sl27 rfl rfl (by omega) nqq) ?_
        refine TL.val rfl rfl rfl (Y.load rfl sc5 rfl cel8) ?_
        refine TL.val rfl rfl rfl (Y.move rfl rfl) ?_
        refine TL.val rfl rfl rfl (Y.bin rfl rfl rfl (br_add8)) ?_
        refine TL.val rfl rfl rfl (by first | exact Y.indexSlB rfl sl27 rfl rfl (by omega) nqq | exact Y.indexSl rfl sl27 rfl rfl (by omega) nqq) ?_
        refine TL.eff0 rfl rfl (by first | exact X.store rfl sz5 rfl rfl rfl pul lnn (by first | exact setM | rfl) | exact X.storeOwn rfl sz5 rfl (Nat.zero_add _).symm rfl rfl pul lnn (by first | exact setML | rfl) | exact X.storeOwn rfl sz5 rfl rfl rfl rfl pul lnn (by first | exact setML | rfl)) ?_
        rintro _ _ rfl
        refine TL.nil ?_
        obtain ⟨w, hw⟩ : ∃ w, w = s.set (un p % s.length) (s.getD (un p % s.length) 0 + y) := ⟨_, rfl⟩
        have hwl : w.length = s.length := by rw [hw, List.length_set]
        rw [← hw]
        refine TQ.meetF (ι := List UInt8) (I := fun s' => s'.length = s.length) (C := fun (_ : List UInt8) => []) (U := []) ((by first | exact w | exact s)) ((by first | exact hwl | rfl)) trivial (by (repeat first | apply Grow.refl | apply Grow.step | apply Grow.app)) ?_ ?_
        · kernel_rfl
        · simp only [List.cons_append, List.nil_append]
          exact ett
      · try simp only [decide_eq_true_eq, decide_eq_false_iff_not, Bool.not_eq_true', Bool.not_eq_false', Bool.and_eq_true, Bool.or_eq_true, Nat.not_lt, Nat.not_le, beq_iff_eq, bne_iff_ne] at c1
        refine TC.skip ?_
        refine TQ.meetF (ι := List UInt8) (I := fun s' => s'.length = s.length) (C := fun (_ : List UInt8) => []) (U := []) ((by first | exact w | exact s)) ((by first | exact hwl | rfl)) trivial (by (repeat first | apply Grow.refl | apply Grow.step | apply Grow.app)) ?_ ?_
        · kernel_rfl
        · simp only [List.cons_append, List.nil_append]
          exact ett
    · try simp only [decide_eq_true_eq, decide_eq_false_iff_not, Bool.not_eq_true', Bool.not_eq_false', Nat.not_lt, Nat.not_le, beq_iff_eq, bne_iff_ne] at g4_2
      refine TL.not rfl rfl rfl ?_
      refine TL.not rfl rfl rfl ?_
      refine TL.not rfl rfl rfl ?_
      refine TL.val rfl rfl rfl (Y.pick_f rfl rfl rfl) ?_
      refine TL.nil ?_
      refine TQ.next ?_
      refine TC.cond_f rfl ?_
      refine TC.skip ?_
      refine TQ.meetF (ι := List UInt8) (I := fun s' => s'.length = s.length) (C := fun (_ : List UInt8) => []) (U := []) ((by first | exact w | exact s)) ((by first | exact hwl | rfl)) trivial (by (repeat first | apply Grow.refl | apply Grow.step | apply Grow.app)) ?_ ?_
      · kernel_rfl
      · simp only [List.cons_append, List.nil_append]
        exact ett
  · rintro s' hs' F' L' rfl hL'
    simp only [List.cons_append, List.nil_append] at hL'
    subst hL'
    refine TC.to ((Pull.ent (A := SA.owns 5 1 (.slice a20 s.length c20) s.length (s'.map v8)) pul).trans Ent.freeze) ?_
    refine TC.seq ?_
    refine TC.region ?_
    refine TL.val rfl rfl rfl (Y.move rfl rfl) ?_
    refine TL.val rfl rfl rfl (Y.move rfl rfl) ?_
    refine TL.eff rfl rfl rfl (X.call rfl Try.func28 (by kernel_rfl) rfl rfl (Fn.preE (by repeat first | (with_reducible apply Ent.refl) | (apply Ent.cons; case h => first | (with_reducible (repeat first | apply Pull.here | apply Pull.there); done) | (repeat first | apply Pull.here | apply Pull.there))) (judged_fn _ _ _ s' hs' (by omega) _ _ _ key hk hkl _))) ?_
    rintro _ _ ⟨rfl, rfl⟩
    refine TL.val rfl rfl rfl (Y.move rfl rfl) ?_
    refine TL.valG rfl rfl rfl (Y.move rfl rfl) ?_
    refine TL.valG rfl rfl rfl (Y.move rfl rfl) ?_
    refine TL.effG rfl rfl rfl (X.call rfl Try.func28 (by kernel_rfl) rfl rfl (Fn.preE (by repeat first | (with_reducible apply Ent.refl) | (apply Ent.cons; case h => first | (with_reducible (repeat first | apply Pull.here | apply Pull.there); done) | (repeat first | apply Pull.here | apply Pull.there))) (judged_fn _ _ _ s' hs' (by omega) _ _ _ oth hok hol _))) ?_
    rintro _ _ ⟨rfl, rfl⟩
    refine TL.val rfl rfl rfl (Y.pick_t rfl rfl rfl) ?_
    refine TL.val rfl rfl rfl (Y.move rfl rfl) ?_
    refine TL.valG rfl rfl rfl (Y.move rfl rfl) ?_
    refine TL.valG rfl rfl rfl (Y.move rfl rfl) ?_
    refine TL.effG rfl rfl rfl (X.call rfl Try.func28 (by kernel_rfl) rfl rfl (Fn.preE (by repeat first | (with_reducible apply Ent.refl) | (apply Ent.cons; case h => first | (with_reducible (repeat first | apply Pull.here | apply Pull.there); done) | (repeat first | apply Pull.here | apply Pull.there))) (judged_fn _ _ _ b hbn hbl _ _ _ key hk hkl _))) ?_
    rintro _ _ ⟨rfl, rfl⟩
    refine TL.val rfl rfl rfl (Y.pick_t rfl rfl rfl) ?_
    refine TL.val rfl rfl rfl (Y.assign rfl rfl) ?_
    refine TL.nil ?_
    refine TQ.next ?_
    refine TC.ret ?_
    refine TQ.retE (res1 rfl rfl) (⟨rfl, rfl⟩) ?_
    exact ett
section
variable {H : Type} {enc : TypeId × Value → H} {W : World} {base : Nat}
set_option maxRecDepth 100000 in
theorem signs_open {v0 v1 : Value} {d0 d1 : DataW H} {p0 p1 : List MemPlace} (o0 : Value.okWide Try.prog W .any base 25 v0) (k0 : DataW.Trod enc Try.prog W 0 (fun _ => true) true 25 v0 d0 p0)
    (o1 : Value.okWide Try.prog W .any base 27 v1) (k1 : DataW.Trod enc Try.prog W 0 (fun _ => true) true 27 v1 d1 p1)
    (hsz : (DataW.weightsEach Try.prog ([25, 27] ++ []) ([d0, d1] ++ [])).all (· ≤ reachBytes) = true) :
    Calls Try.prog 7 #[v0, v1] W fun e w' => e = .returned (.bool true) ∧ Fr [] W w' := by
  obtain ⟨c, m, f, a, cap, l, rfl, h1, -, -, h2, h3⟩ := open_msg 0 o0 k0 hsz rfl rfl
  obtain ⟨a2, cap2, bs, rfl, g1, g2⟩ := open_bytes 1 o1 k1 hsz rfl rfl Try.underlying27 Try.underlying5 (by kernel_rfl) (by kernel_rfl)
  exact Fn.topD (As := [SA.dat (⟨a, cap, l⟩ : Sl At), _]) (signs_fn c m f a cap l h2 h3 a2 _ cap2 bs rfl (by omega) [SA.old W]) (fun A hA => by
    rcases hA.two with rfl | rfl
    · exact SA.dat_arg h1
    · exact g1.arg (by decide))
theorem In.four {A B C D E : SA} (h : In A [B, C, D, E]) : A = B ∨ A = C ∨ A = D ∨ A = E := by
  cases h with
  | here => exact .inl rfl
  | there h => exact .inr (by
    cases h with
    | here => exact .inl rfl
    | there h => exact .inr h.two)
set_option maxRecDepth 100000 in
theorem checks_open {v0 v1 v2 v3 : Value} {d0 d1 d2 d3 d4 d5 : DataW H} {p0 p1 p2 p3 : List MemPlace} {p y : Int} (hy : (Lit.int .u8 y).wf = true)
    (o0 : Value.okWide Try.prog W .any base 25 v0) (k0 : DataW.Trod enc Try.prog W 0 (fun _ => true) true 25 v0 d0 p0)
    (o1 : Value.okWide Try.prog W .any base 27 v1) (k1 : DataW.Trod enc Try.prog W 0 (fun _ => true) true 27 v1 d1 p1)
    (o2 : Value.okWide Try.prog W .any base 27 v2) (k2 : DataW.Trod enc Try.prog W 0 (fun _ => true) true 27 v2 d2 p2)
    (o3 : Value.okWide Try.prog W .any base 27 v3) (k3 : DataW.Trod enc Try.prog W 0 (fun _ => true) true 27 v3 d3 p3)
    (hsz : (DataW.weightsEach Try.prog ([25, 27, 27, 27, 3, 5] ++ []) ([d0, d1, d2, d3, d4, d5] ++ [])).all (· ≤ reachBytes) = true) :
    Calls Try.prog 8 #[v0, v1, v2, v3, .int .i64 p, .int .u8 y] W fun e w' => e = .returned (.bool true) ∧ Fr [] W w' := by
  obtain ⟨c, m, f, a, cap, l, rfl, h1, -, -, h2, h3⟩ := open_msg 0 o0 k0 hsz rfl rfl
  obtain ⟨a1, cap1, b1, rfl, g1, g1'⟩ := open_bytes 1 o1 k1 hsz rfl rfl Try.underlying27 Try.underlying5 (by kernel_rfl) (by kernel_rfl)
  obtain ⟨a2, cap2, b2, rfl, g2, g2'⟩ := open_bytes 2 o2 k2 hsz rfl rfl Try.underlying27 Try.underlying5 (by kernel_rfl) (by kernel_rfl)
  obtain ⟨a3, cap3, b3, rfl, g3, g3'⟩ := open_bytes 3 o3 k3 hsz rfl rfl Try.underlying27 Try.underlying5 (by kernel_rfl) (by kernel_rfl)
  rw [wf_u8 hy]
  exact Fn.topD (As := [SA.dat (⟨a, cap, l⟩ : Sl At), _, _, _]) (checks_fn c m f a cap l h2 h3 a1 _ cap1 b1 rfl (by omega) a2 _ cap2 b2 rfl (by omega) a3 _ cap3 b3 rfl (by omega) p (b8 y) [SA.old W]) (fun A hA => by
    rcases In.four hA with rfl | rfl | rfl | rfl
    · exact SA.dat_arg h1
    · exact g1.arg (by decide)
    · exact g2.arg (by decide)
    · exact g3.arg (by decide))
end
end stun
end Go.Proofs.Ytggammbhmoippaa
