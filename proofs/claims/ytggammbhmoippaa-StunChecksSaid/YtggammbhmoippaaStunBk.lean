/- The statement StunBack, walked; it meets the row. -/
import Derived.Test.YtggammbhmoippaaStunSame
import Derived.Test.YtggammbhmoippaaStunO1
import Derived.Test.YtggammbhmoippaaOpenB
import Derived.Test.YtggammbhmoippaaHAuto
namespace Go.Proofs.Ytggammbhmoippaa
set_option linter.unusedVariables false
set_option linter.unusedSimpArgs false
open Go.ChangeShapes Go.WideShapes Go.ChangeAt Go.RowKit
namespace stun
namespace FxStunBk
set_option maxRecDepth 100000
theorem ag25 : Program.aggN Try.prog 25 = some 15 := by kernel_rfl
theorem ag34 : Program.aggN Try.prog 34 = some 15 := by kernel_rfl
theorem fo34_3 : Program.fieldOff Try.prog 34 3 = some 14 := by kernel_rfl
theorem sc32 : Program.isSc Try.prog 32 = true := by kernel_rfl
theorem sz34 : (Try.prog.info? 34).map (·.size) = some 15 := by kernel_rfl
theorem zc34 : Program.zeroC Try.prog 34 = some #[.int .i64 0, .int .i64 0, .int .u8 0, .int .u8 0, .int .u8 0, .int .u8 0, .int .u8 0, .int .u8 0, .int .u8 0, .int .u8 0, .int .u8 0, .int .u8 0, .int .u8 0, .int .u8 0, .slice none 0 0] := by kernel_rfl
end FxStunBk
open FxStunBk
theorem ob_len {x : SMsg} : (ob x.build).length ≤ 1500 := by
  unfold SMsg.build
  split
  · rename_i h; exact h.2
  · simp [ob]
theorem ob_some {o : Option (List UInt8)} (h : oe o = 0) : o = some (ob o) := by
  cases o with
  | none => cases h
  | some w => rfl
set_option maxHeartbeats 2000000 in
theorem back_fn (c m : Int) (f : Nat → UInt8) (a : Option Addr) (cap : Nat) (l : List At) (hl : l.length * 32 ≤ 140737488351232) (hb : ∀ x ∈ l, x.2.l.length ≤ 140737488351232)
    (a2 : Option Addr) (n cap2 : Nat) (b : List UInt8) (hn : b.length = n) (hr : n ≤ 140737488351232) (L : List SA) :
    Fn Try.prog 6 [.agg (msgC c m f (.slice a l.length cap)), .slice a2 n cap2] (SA.dat (⟨a, cap, l⟩ : Sl At) :: SA.rds 1 (.slice a2 n cap2) n (b.map v8) :: L)
      (fun v L' => v = .bool true ∧ L' = SA.dat (⟨a, cap, l⟩ : Sl At) :: SA.rds 1 (.slice a2 n cap2) n (b.map v8) :: L) := by
  subst hn
  refine Fn.of (N := 66) Try.func6 rfl rfl ?_
  intro Xh
  refine TC.seq ?_
  refine TC.region ?_
  refine TL.eff rfl rfl rfl (X.boxA rfl rfl) ?_
  rintro _ _ ⟨b2, rfl, rfl⟩
  refine TL.val rfl rfl rfl (Y.assign rfl rfl) ?_
  refine TL.nil ?_
  refine TQ.next ?_
  refine TC.seq ?_
  refine TC.seq ?_
  refine TC.region ?_
  refine TL.eff rfl rfl rfl (X.call rfl Try.func9 (by kernel_rfl) rfl rfl (Fn.preE (by repeat first | (with_reducible apply Ent.refl) | (apply Ent.cons; case h => first | (with_reducible (repeat first | apply Pull.here | apply Pull.there); done) | (repeat first | apply Pull.here | apply Pull.there))) (stun.awake_fn _))) ?_
  rintro _ _ ⟨rfl, rfl⟩
  refine TL.val rfl rfl rfl (Y.not rfl rfl) ?_
  refine TL.nil ?_
  refine TQ.next ?_
  refine TC.cond_f rfl ?_
  refine TC.skip ?_
  refine TQ.next ?_
  refine TC.seq ?_
  refine TC.region ?_
  refine TL.val rfl rfl rfl (Y.loadAgg rfl ag25 rfl (Cels.all (cs := msgC c m f (.slice a l.length cap)) inn) (by first | rfl | ((try simp only [List.length_map, List.length_set, List.length_replicate]); omega))) ?_
  refine TL.as (.agg (msgC c m f (.slice a l.length cap))) (by rfl) ?_
  refine TL.eff rfl rfl rfl (X.call rfl Try.func12 (by kernel_rfl) rfl rfl (Fn.preE (by repeat first | (with_reducible apply Ent.refl) | (apply Ent.cons; case h => first | (with_reducible (repeat first | apply Pull.here | apply Pull.there); done) | (repeat first | apply Pull.here | apply Pull.there))) (stun.theirs_fn _ _ _ _ _ _ (by assumption) (by assumption) _))) ?_
  rintro _ _ ⟨ta17, tc17, tl17, rfl, htl17, rfl⟩
  refine TL.eff rfl rfl rfl (X.call rfl Try.func11 (by kernel_rfl) rfl rfl (Fn.preE (by repeat first | (with_reducible apply Ent.refl) | (apply Ent.cons; case h => first | (with_reducible (repeat first | apply Pull.here | apply Pull.there); done) | (repeat first | apply Pull.here | apply Pull.there))) (Build_fn c m f ta17 tc17 tl17 _))) ?_
  rintro _ _ ⟨a18, c18, rfl, rfl⟩
  rw [show SM c m f ⟨ta17, tc17, tl17⟩ = SM c m f ⟨a, cap, l⟩ by simp only [SM, htl17]]
  have hol := ob_len (x := SM c m f ⟨a, cap, l⟩)
  obtain ⟨o, ho⟩ : ∃ o, o = (SM c m f ⟨a, cap, l⟩).build := ⟨_, rfl⟩
  rw [← ho]
  rw [← ho] at hol
  refine TL.val rfl rfl rfl (Y.move rfl rfl) ?_
  refine TL.val rfl rfl rfl (Y.extract rfl rfl rfl) ?_
  refine TL.val rfl rfl rfl (Y.extract rfl rfl rfl) ?_
  refine TL.val rfl rfl rfl (Y.assign rfl rfl) ?_
  refine TL.val rfl rfl rfl (Y.assign rfl rfl) ?_
  refine TL.nil ?_
  refine TQ.next ?_
  refine TC.seq ?_
  refine TC.seq ?_
  refine TC.region ?_
  refine TL.val rfl rfl rfl (Y.move rfl rfl) ?_
  refine TL.val rfl rfl rfl (Y.bin rfl rfl rfl (br_eqN (n := 0))) ?_
  refine TL.nil ?_
  refine TQ.next ?_
  refine TC.cond rfl (fun c1 => ?_) (fun c1 => ?_)
  · try simp only [decide_eq_true_eq, decide_eq_false_iff_not, Bool.not_eq_true', Bool.not_eq_false', Bool.and_eq_true, Bool.or_eq_true, Nat.not_lt, Nat.not_le, beq_iff_eq, bne_iff_ne] at c1
    have hPm : PR (ob o) c m f (l.map pl) 0 := .inl ⟨rfl, ho.symm.trans (ob_some c1)⟩
    refine TC.to ((Pull.ent (A := SA.owns 5 1 (.slice a18 (ob o).length c18) (ob o).length ((ob o).map v8)) pul).trans Ent.freeze) ?_
    refine TC.seq ?_
    refine TC.region ?_
    refine TL.val rfl rfl rfl (Y.move rfl rfl) ?_
    refine TL.eff rfl rfl rfl (X.call rfl Try.func14 (by kernel_rfl) rfl rfl (Fn.preE (by repeat first | (with_reducible apply Ent.refl) | (apply Ent.cons; case h => first | (with_reducible (repeat first | apply Pull.here | apply Pull.there); done) | (repeat first | apply Pull.here | apply Pull.there))) (stun.Parse_fn _ _ _ _ (by first | assumption | rfl) (by omega) _))) ?_
    rintro _ _ ⟨pc25, pm25, pf25, pa25, pcap25, pl25, pe25, rfl, hP25, rfl⟩
    obtain ⟨e1, e2, hid, hlp, e5⟩ := PR.one hP25 hPm
    have hl16 := PR.len hP25
    subst pc25; subst pm25; subst pe25
    refine TL.val rfl rfl rfl (Y.move rfl rfl) ?_
    refine TL.val rfl rfl rfl (Y.extract rfl rfl rfl) ?_
    refine TL.val rfl rfl rfl (Y.extract rfl rfl rfl) ?_
    refine TL.eff rfl rfl rfl (X.alloc rfl zc34) ?_
    rintro _ _ ⟨b7, rfl, rfl⟩
    refine TL.eff0 rfl rfl (by first | exact X.storeAll rfl sz34 (by rfl) rfl rfl (allOne (by rfl)) pul (by rfl) | exact X.storeAll rfl sz34 szz rfl rfl (by simp [Value.oneCell']) pul szz | exact X.storeAgg rfl sz34 szz rfl rfl (by simp [Value.oneCell']) pul szz (writeM (by ((try simp only [List.length_set, List.length_map, List.length_append, List.length_replicate]); omega)))) ?_
    rintro _ _ rfl
    refine TL.val rfl rfl rfl (Y.assign rfl rfl) ?_
    refine TL.nil ?_
    refine TQ.next ?_
    refine TC.seq ?_
    refine TC.draws 6 [SA.blk b7 (msgC c m pf25 (.slice pa25 pl25.length pcap25)) 34, SA.blk b2 (msgC c m f (.slice a l.length cap)) 25] (by kernel_rfl) (by kernel_rfl) (by repeat first | exact holds_nil | refine holds_cons inn ?_) ?_
    refine TA.takeP 0 rfl rfl rfl rfl (by kernel_rfl) (by kernel_rfl) (by kernel_rfl) rfl (fun _ _ _ h => h) (Y.move rfl rfl) ?_
    refine TA.takeP 1 rfl rfl rfl rfl (by kernel_rfl) (by kernel_rfl) (by kernel_rfl) rfl (fun _ _ _ h => h) (Y.bin rfl rfl rfl (br_neN (n := 0))) ?_
    refine TA.is false (by first | rfl | (simp only [decide_eq_true_eq, decide_eq_false_iff_not, Bool.not_eq_true', Bool.not_eq_false', Bool.not_eq_eq_eq_not, Bool.not_true, Bool.not_false, Nat.not_lt, Nat.not_le]; omega) | (simp [*]; done) | (simp; omega)) ?_
    refine TA.take 2 rfl rfl rfl rfl (by kernel_rfl) (by kernel_rfl) (by kernel_rfl) rfl (by kernel_rfl) (by kernel_rfl) (fun _ _ _ h => h) (Y.move rfl rfl) ?_
    refine TA.take 5 rfl rfl rfl rfl (by kernel_rfl) (by kernel_rfl) (by kernel_rfl) rfl (by kernel_rfl) (by kernel_rfl) (fun _ _ _ h => h) (Y.loadAgg rfl ag25 rfl (Cels.all (cs := msgC c m f (.slice a l.length cap)) inn) (by first | rfl | ((try simp only [List.length_map, List.length_set, List.length_replicate]); omega))) ?_
    refine TA.as (.agg (msgC c m f (.slice a l.length cap))) (by rfl) ?_
    refine TA.one 3 (by kernel_rfl) rfl rfl rfl rfl (Eff.val (fun _ h => by cases h) (Y.loadAgg rfl ag34 rfl (Cels.all (cs := msgC c m pf25 (.slice pa25 pl25.length pcap25)) inn) (by first | rfl | ((try simp only [List.length_map, List.length_set, List.length_replicate]); omega)))) ?_
    rintro _ _ ⟨rfl, rfl⟩
    refine ⟨Or.inr (by repeat first | exact holds_nil | refine holds_cons inn ?_), ?_⟩
    refine TA.as (.agg (msgC c m pf25 (.slice pa25 pl25.length pcap25))) (by rfl) ?_
    refine TA.one 4 (by kernel_rfl) rfl rfl rfl rfl (X.call rfl Try.func16 (by kernel_rfl) rfl rfl (Fn.preE (by repeat first | (with_reducible apply Ent.refl) | (apply Ent.cons; case h => first | (with_reducible (repeat first | apply Pull.here | apply Pull.there); done) | (repeat first | apply Pull.here | apply Pull.there))) (stun.ours_fn _ _ _ _ _ _ (by assumption) _))) ?_
    rintro _ _ ⟨oa32, oc32, rfl, rfl⟩
    refine ⟨(Or.inr (by repeat first | exact holds_nil | refine holds_cons inn ?_)), ?_⟩
    refine TA.one 6 (by kernel_rfl) rfl rfl rfl rfl (X.call rfl Try.func15 (by kernel_rfl) rfl rfl (Fn.preE (by repeat first | (with_reducible apply Ent.refl) | (apply Ent.cons; case h => first | (with_reducible (repeat first | apply Pull.here | apply Pull.there); done) | (repeat first | apply Pull.here | apply Pull.there))) (stun.Same_fn _ _ _ _ _ _ _ _ _ _ (by first | assumption | rfl) (by first | assumption | rfl) _))) ?_
    rintro _ _ ⟨rfl, rfl⟩
    refine ⟨(Or.inl (by kernel_rfl)), ?_⟩
    refine TA.takeP 7 rfl rfl rfl rfl (by kernel_rfl) (by kernel_rfl) (by kernel_rfl) rfl (fun _ _ _ h => h) (Y.not rfl rfl) ?_
    refine TA.takeP 8 rfl rfl rfl rfl (by kernel_rfl) (by kernel_rfl) (by kernel_rfl) rfl (fun _ _ _ h => h) (Y.pick_f rfl rfl rfl) ?_
    refine TA.done (by kernel_rfl) ?_
    refine TQ.next ?_
    refine TC.cond_f rfl ?_
    refine TC.skip ?_
    refine TQ.next ?_
    refine TC.seq ?_
    refine TC.region ?_
    refine TL.val rfl rfl rfl (Y.move rfl rfl) ?_
    refine TL.eff rfl rfl rfl (X.call rfl Try.func14 (by kernel_rfl) rfl rfl (Fn.preE (by repeat first | (with_reducible apply Ent.refl) | (apply Ent.cons; case h => first | (with_reducible (repeat first | apply Pull.here | apply Pull.there); done) | (repeat first | apply Pull.here | apply Pull.there))) (stun.Parse_fn _ _ _ _ (by first | assumption | rfl) (by omega) _))) ?_
    rintro _ _ ⟨pc39, pm39, pf39, pa39, pcap39, pl39, pe39, rfl, hP39, rfl⟩
    refine TL.val rfl rfl rfl (Y.move rfl rfl) ?_
    refine TL.val rfl rfl rfl (Y.extract rfl rfl rfl) ?_
    refine TL.val rfl rfl rfl (Y.extract rfl rfl rfl) ?_
    refine TL.eff rfl rfl rfl (X.alloc rfl zc34) ?_
    rintro _ _ ⟨b9, rfl, rfl⟩
    refine TL.eff0 rfl rfl (by first | exact X.storeAll rfl sz34 (by rfl) rfl rfl (allOne (by rfl)) pul (by rfl) | exact X.storeAll rfl sz34 szz rfl rfl (by simp [Value.oneCell']) pul szz | exact X.storeAgg rfl sz34 szz rfl rfl (by simp [Value.oneCell']) pul szz (writeM (by ((try simp only [List.length_set, List.length_map, List.length_append, List.length_replicate]); omega)))) ?_
    rintro _ _ rfl
    refine TL.val rfl rfl rfl (Y.assign rfl rfl) ?_
    refine TL.nil ?_
    refine TQ.next ?_
    refine TC.seq ?_
    refine TC.seq ?_
    refine TC.region ?_
    refine TL.val rfl rfl rfl (Y.move rfl rfl) ?_
    refine TL.val rfl rfl rfl (Y.bin rfl rfl rfl (br_neN (n := 0))) ?_
    refine TL.nil ?_
    refine TQ.next ?_
    refine TC.cond rfl (fun c3 => ?_) (fun c3 => ?_)
    · try simp only [decide_eq_true_eq, decide_eq_false_iff_not, Bool.not_eq_true', Bool.not_eq_false', Bool.and_eq_true, Bool.or_eq_true, Nat.not_lt, Nat.not_le, beq_iff_eq, bne_iff_ne] at c3
      rcases hP39 with ⟨h0, -⟩ | ⟨h2, -, -, -, hnil, -⟩
      · exact absurd h0 c3
      obtain rfl : pl39 = [] := by simpa using hnil
      subst h2
      refine TC.seq ?_
      refine TC.region ?_
      refine TL.val rfl rfl rfl (Y.move rfl rfl) ?_
      refine TL.val rfl rfl rfl (Y.bin rfl rfl rfl (br_eqN (n := 2))) ?_
      refine TL.is true (by first | rfl | (simp only [decide_eq_true_eq, decide_eq_false_iff_not, Bool.not_eq_true', Bool.not_eq_false', Bool.not_eq_eq_eq_not, Bool.not_true, Bool.not_false, Nat.not_lt, Nat.not_le]; omega) | (simp [*]; done) | (simp; omega)) ?_
      refine TL.val rfl rfl rfl (Y.move rfl rfl) ?_
      refine TL.valG rfl rfl rfl (by first | exact Y.fieldAddrJ rfl fo34_3 rfl nqq | exact Y.fieldAddr rfl fo34_3 rfl nqq) ?_
      refine TL.valG rfl rfl rfl (Y.load rfl sc32 rfl celD) ?_
      refine TL.valG rfl rfl rfl (Y.len rfl Try.underlying32 rfl) ?_
      refine TL.valG rfl rfl rfl (Y.bin rfl rfl rfl (br_eqN (n := 0))) ?_
      refine TL.is true (by first | rfl | (simp only [decide_eq_true_eq, decide_eq_false_iff_not, Bool.not_eq_true', Bool.not_eq_false', Bool.not_eq_eq_eq_not, Bool.not_true, Bool.not_false, Nat.not_lt, Nat.not_le]; omega) | (simp [*]; done) | (simp; omega)) ?_
      refine TL.val rfl rfl rfl (Y.pick_t rfl rfl rfl) ?_
      refine TL.val rfl rfl rfl (Y.assign rfl rfl) ?_
      refine TL.nil ?_
      refine TQ.next ?_
      refine TC.ret ?_
      refine TQ.then_ret ?_
      refine TQ.retE (res1 rfl rfl) (⟨rfl, rfl⟩) ?_
      exact ett
    · try simp only [decide_eq_true_eq, decide_eq_false_iff_not, Bool.not_eq_true', Bool.not_eq_false', Bool.and_eq_true, Bool.or_eq_true, Nat.not_lt, Nat.not_le, beq_iff_eq, bne_iff_ne] at c3
      have hB : (⟨pc39, pm39, idL pf39, pl39.map pl⟩ : SMsg).build = some b := by
        rcases hP39 with ⟨-, hB⟩ | ⟨h2, -⟩
        · exact hB
        · exact absurd (h2.symm.trans c3) (by decide)
      refine TC.skip ?_
      refine TQ.next ?_
      refine TC.seq ?_
      refine TC.region ?_
      refine TL.val rfl rfl rfl (Y.loadAgg rfl ag34 rfl (Cels.all (cs := msgC pc39 pm39 pf39 (.slice pa39 pl39.length pcap39)) inn) (by first | rfl | ((try simp only [List.length_map, List.length_set, List.length_replicate]); omega))) ?_
      refine TL.as (.agg (msgC pc39 pm39 pf39 (.slice pa39 pl39.length pcap39))) (by rfl) ?_
      refine TL.eff rfl rfl rfl (X.call rfl Try.func11 (by kernel_rfl) rfl rfl (Fn.preE (by repeat first | (with_reducible apply Ent.refl) | (apply Ent.cons; case h => first | (with_reducible (repeat first | apply Pull.here | apply Pull.there); done) | (repeat first | apply Pull.here | apply Pull.there))) (Build_fn pc39 pm39 pf39 pa39 pcap39 pl39 _))) ?_
      rintro _ _ ⟨a54, c54, rfl, rfl⟩
      rw [show (SM pc39 pm39 pf39 ⟨pa39, pcap39, pl39⟩).build = some b from hB, show ob (some b) = b from rfl, show oe (some b) = 0 from rfl]
      refine TL.val rfl rfl rfl (Y.move rfl rfl) ?_
      refine TL.val rfl rfl rfl (Y.extract rfl rfl rfl) ?_
      refine TL.val rfl rfl rfl (Y.extract rfl rfl rfl) ?_
      refine TL.val rfl rfl rfl (Y.assign rfl rfl) ?_
      refine TL.val rfl rfl rfl (Y.assign rfl rfl) ?_
      refine TL.nil ?_
      refine TQ.next ?_
      refine TC.seq ?_
      refine TC.region ?_
      refine TL.val rfl rfl rfl (Y.move rfl rfl) ?_
      refine TL.val rfl rfl rfl (Y.bin rfl rfl rfl (br_eqN (n := 0))) ?_
      refine TL.is true (by first | rfl | (simp only [decide_eq_true_eq, decide_eq_false_iff_not, Bool.not_eq_true', Bool.not_eq_false', Bool.not_eq_eq_eq_not, Bool.not_true, Bool.not_false, Nat.not_lt, Nat.not_le]; omega) | (simp [*]; done) | (simp; omega)) ?_
      refine TL.val rfl rfl rfl (Y.move rfl rfl) ?_
      refine TL.valG rfl rfl rfl (Y.move rfl rfl) ?_
      refine TL.valG rfl rfl rfl (by first | exact Y.str rfl Try.underlying27 Try.underlying9 Try.underlying5 rfl Reads.rds inn | exact Y.str rfl Try.underlying27 Try.underlying9 Try.underlying5 rfl Reads.owns inn | exact Y.str rfl Try.underlying27 Try.underlying9 Try.underlying5 rfl (by assumption) inn) ?_
      refine TL.valG rfl rfl rfl (Y.move rfl rfl) ?_
      refine TL.valG rfl rfl rfl (by first | exact Y.str rfl Try.underlying27 Try.underlying9 Try.underlying5 rfl Reads.rds inn | exact Y.str rfl Try.underlying27 Try.underlying9 Try.underlying5 rfl Reads.owns inn | exact Y.str rfl Try.underlying27 Try.underlying9 Try.underlying5 rfl (by assumption) inn) ?_
      refine TL.valG rfl rfl rfl (Y.eqStr rfl rfl rfl) ?_
      refine TL.is true (by first | rfl | (simp only [decide_eq_true_eq, decide_eq_false_iff_not, Bool.not_eq_true', Bool.not_eq_false', Bool.not_eq_eq_eq_not, Bool.not_true, Bool.not_false, Nat.not_lt, Nat.not_le]; omega) | (simp [*]; done) | (simp; omega)) ?_
      refine TL.val rfl rfl rfl (Y.pick_t rfl rfl rfl) ?_
      refine TL.val rfl rfl rfl (Y.assign rfl rfl) ?_
      refine TL.nil ?_
      refine TQ.next ?_
      refine TC.ret ?_
      refine TQ.retE (res1 rfl rfl) (⟨rfl, rfl⟩) ?_
      exact ett
  · try simp only [decide_eq_true_eq, decide_eq_false_iff_not, Bool.not_eq_true', Bool.not_eq_false', Bool.and_eq_true, Bool.or_eq_true, Nat.not_lt, Nat.not_le, beq_iff_eq, bne_iff_ne] at c1
    refine TC.skip ?_
    refine TQ.next ?_
    refine TC.seq ?_
    refine TC.region ?_
    refine TL.val rfl rfl rfl (Y.move rfl rfl) ?_
    refine TL.eff rfl rfl rfl (X.call rfl Try.func14 (by kernel_rfl) rfl rfl (Fn.preE (by repeat first | (with_reducible apply Ent.refl) | (apply Ent.cons; case h => first | (with_reducible (repeat first | apply Pull.here | apply Pull.there); done) | (repeat first | apply Pull.here | apply Pull.there))) (stun.Parse_fn _ _ _ _ (by first | assumption | rfl) (by omega) _))) ?_
    rintro _ _ ⟨pc39, pm39, pf39, pa39, pcap39, pl39, pe39, rfl, hP39, rfl⟩
    refine TL.val rfl rfl rfl (Y.move rfl rfl) ?_
    refine TL.val rfl rfl rfl (Y.extract rfl rfl rfl) ?_
    refine TL.val rfl rfl rfl (Y.extract rfl rfl rfl) ?_
    refine TL.eff rfl rfl rfl (X.alloc rfl zc34) ?_
    rintro _ _ ⟨b9, rfl, rfl⟩
    refine TL.eff0 rfl rfl (by first | exact X.storeAll rfl sz34 (by rfl) rfl rfl (allOne (by rfl)) pul (by rfl) | exact X.storeAll rfl sz34 szz rfl rfl (by simp [Value.oneCell']) pul szz | exact X.storeAgg rfl sz34 szz rfl rfl (by simp [Value.oneCell']) pul szz (writeM (by ((try simp only [List.length_set, List.length_map, List.length_append, List.length_replicate]); omega)))) ?_
    rintro _ _ rfl
    refine TL.val rfl rfl rfl (Y.assign rfl rfl) ?_
    refine TL.nil ?_
    refine TQ.next ?_
    refine TC.seq ?_
    refine TC.seq ?_
    refine TC.region ?_
    refine TL.val rfl rfl rfl (Y.move rfl rfl) ?_
    refine TL.val rfl rfl rfl (Y.bin rfl rfl rfl (br_neN (n := 0))) ?_
    refine TL.nil ?_
    refine TQ.next ?_
    refine TC.cond rfl (fun c3 => ?_) (fun c3 => ?_)
    · try simp only [decide_eq_true_eq, decide_eq_false_iff_not, Bool.not_eq_true', Bool.not_eq_false', Bool.and_eq_true, Bool.or_eq_true, Nat.not_lt, Nat.not_le, beq_iff_eq, bne_iff_ne] at c3
      rcases hP39 with ⟨h0, -⟩ | ⟨h2, -, -, -, hnil, -⟩
      · exact absurd h0 c3
      obtain rfl : pl39 = [] := by simpa using hnil
      subst h2
      refine TC.seq ?_
      refine TC.region ?_
      refine TL.val rfl rfl rfl (Y.move rfl rfl) ?_
      refine TL.val rfl rfl rfl (Y.bin rfl rfl rfl (br_eqN (n := 2))) ?_
      refine TL.is true (by first | rfl | (simp only [decide_eq_true_eq, decide_eq_false_iff_not, Bool.not_eq_true', Bool.not_eq_false', Bool.not_eq_eq_eq_not, Bool.not_true, Bool.not_false, Nat.not_lt, Nat.not_le]; omega) | (simp [*]; done) | (simp; omega)) ?_
      refine TL.val rfl rfl rfl (Y.move rfl rfl) ?_
      refine TL.valG rfl rfl rfl (by first | exact Y.fieldAddrJ rfl fo34_3 rfl nqq | exact Y.fieldAddr rfl fo34_3 rfl nqq) ?_
      refine TL.valG rfl rfl rfl (Y.load rfl sc32 rfl celD) ?_
      refine TL.valG rfl rfl rfl (Y.len rfl Try.underlying32 rfl) ?_
      refine TL.valG rfl rfl rfl (Y.bin rfl rfl rfl (br_eqN (n := 0))) ?_
      refine TL.is true (by first | rfl | (simp only [decide_eq_true_eq, decide_eq_false_iff_not, Bool.not_eq_true', Bool.not_eq_false', Bool.not_eq_eq_eq_not, Bool.not_true, Bool.not_false, Nat.not_lt, Nat.not_le]; omega) | (simp [*]; done) | (simp; omega)) ?_
      refine TL.val rfl rfl rfl (Y.pick_t rfl rfl rfl) ?_
      refine TL.val rfl rfl rfl (Y.assign rfl rfl) ?_
      refine TL.nil ?_
      refine TQ.next ?_
      refine TC.ret ?_
      refine TQ.then_ret ?_
      refine TQ.retE (res1 rfl rfl) (⟨rfl, rfl⟩) ?_
      exact ett
    · try simp only [decide_eq_true_eq, decide_eq_false_iff_not, Bool.not_eq_true', Bool.not_eq_false', Bool.and_eq_true, Bool.or_eq_true, Nat.not_lt, Nat.not_le, beq_iff_eq, bne_iff_ne] at c3
      have hB : (⟨pc39, pm39, idL pf39, pl39.map pl⟩ : SMsg).build = some b := by
        rcases hP39 with ⟨-, hB⟩ | ⟨h2, -⟩
        · exact hB
        · exact absurd (h2.symm.trans c3) (by decide)
      refine TC.skip ?_
      refine TQ.next ?_
      refine TC.seq ?_
      refine TC.region ?_
      refine TL.val rfl rfl rfl (Y.loadAgg rfl ag34 rfl (Cels.all (cs := msgC pc39 pm39 pf39 (.slice pa39 pl39.length pcap39)) inn) (by first | rfl | ((try simp only [List.length_map, List.length_set, List.length_replicate]); omega))) ?_
      refine TL.as (.agg (msgC pc39 pm39 pf39 (.slice pa39 pl39.length pcap39))) (by rfl) ?_
      refine TL.eff rfl rfl rfl (X.call rfl Try.func11 (by kernel_rfl) rfl rfl (Fn.preE (by repeat first | (with_reducible apply Ent.refl) | (apply Ent.cons; case h => first | (with_reducible (repeat first | apply Pull.here | apply Pull.there); done) | (repeat first | apply Pull.here | apply Pull.there))) (Build_fn pc39 pm39 pf39 pa39 pcap39 pl39 _))) ?_
      rintro _ _ ⟨a54, c54, rfl, rfl⟩
      rw [show (SM pc39 pm39 pf39 ⟨pa39, pcap39, pl39⟩).build = some b from hB, show ob (some b) = b from rfl, show oe (some b) = 0 from rfl]
      refine TL.val rfl rfl rfl (Y.move rfl rfl) ?_
      refine TL.val rfl rfl rfl (Y.extract rfl rfl rfl) ?_
      refine TL.val rfl rfl rfl (Y.extract rfl rfl rfl) ?_
      refine TL.val rfl rfl rfl (Y.assign rfl rfl) ?_
      refine TL.val rfl rfl rfl (Y.assign rfl rfl) ?_
      refine TL.nil ?_
      refine TQ.next ?_
      refine TC.seq ?_
      refine TC.region ?_
      refine TL.val rfl rfl rfl (Y.move rfl rfl) ?_
      refine TL.val rfl rfl rfl (Y.bin rfl rfl rfl (br_eqN (n := 0))) ?_
      refine TL.is true (by first | rfl | (simp only [decide_eq_true_eq, decide_eq_false_iff_not, Bool.not_eq_true', Bool.not_eq_false', Bool.not_eq_eq_eq_not, Bool.not_true, Bool.not_false, Nat.not_lt, Nat.not_le]; omega) | (simp [*]; done) | (simp; omega)) ?_
      refine TL.val rfl rfl rfl (Y.move rfl rfl) ?_
      refine TL.valG rfl rfl rfl (Y.move rfl rfl) ?_
      refine TL.valG rfl rfl rfl (by first | exact Y.str rfl Try.underlying27 Try.underlying9 Try.underlying5 rfl Reads.rds inn | exact Y.str rfl Try.underlying27 Try.underlying9 Try.underlying5 rfl Reads.owns inn | exact Y.str rfl Try.underlying27 Try.underlying9 Try.underlying5 rfl (by assumption) inn) ?_
      refine TL.valG rfl rfl rfl (Y.move rfl rfl) ?_
      refine TL.valG rfl rfl rfl (by first | exact Y.str rfl Try.underlying27 Try.underlying9 Try.underlying5 rfl Reads.rds inn | exact Y.str rfl Try.underlying27 Try.underlying9 Try.underlying5 rfl Reads.owns inn | exact Y.str rfl Try.underlying27 Try.underlying9 Try.underlying5 rfl (by assumption) inn) ?_
      refine TL.valG rfl rfl rfl (Y.eqStr rfl rfl rfl) ?_
      refine TL.is true (by first | rfl | (simp only [decide_eq_true_eq, decide_eq_false_iff_not, Bool.not_eq_true', Bool.not_eq_false', Bool.not_eq_eq_eq_not, Bool.not_true, Bool.not_false, Nat.not_lt, Nat.not_le]; omega) | (simp [*]; done) | (simp; omega)) ?_
      refine TL.val rfl rfl rfl (Y.pick_t rfl rfl rfl) ?_
      refine TL.val rfl rfl rfl (Y.assign rfl rfl) ?_
      refine TL.nil ?_
      refine TQ.next ?_
      refine TC.ret ?_
      refine TQ.retE (res1 rfl rfl) (⟨rfl, rfl⟩) ?_
      exact ett
section
variable {H : Type} {enc : TypeId × Value → H} {W : World} {base : Nat}
set_option maxRecDepth 100000 in
theorem back_open {v0 v1 : Value} {d0 d1 : DataW H} {p0 p1 : List MemPlace} (o0 : Value.okWide Try.prog W .any base 25 v0) (k0 : DataW.Trod enc Try.prog W 0 (fun _ => true) true 25 v0 d0 p0)
    (o1 : Value.okWide Try.prog W .any base 27 v1) (k1 : DataW.Trod enc Try.prog W 0 (fun _ => true) true 27 v1 d1 p1)
    (hsz : (DataW.weightsEach Try.prog ([25, 27] ++ []) ([d0, d1] ++ [])).all (· ≤ reachBytes) = true) :
    Calls Try.prog 6 #[v0, v1] W fun e w' => e = .returned (.bool true) ∧ Fr [] W w' := by
  obtain ⟨c, m, f, a, cap, l, rfl, h1, -, -, h2, h3⟩ := open_msg 0 o0 k0 hsz rfl rfl
  obtain ⟨a2, cap2, bs, rfl, g1, g2⟩ := open_bytes 1 o1 k1 hsz rfl rfl Try.underlying27 Try.underlying5 (by kernel_rfl) (by kernel_rfl)
  exact Fn.topD (As := [SA.dat (⟨a, cap, l⟩ : Sl At), _]) (back_fn c m f a cap l h2 h3 a2 _ cap2 bs rfl (by omega) [SA.old W]) (fun A hA => by
    rcases hA.two with rfl | rfl
    · exact SA.dat_arg h1
    · exact g1.arg (by decide))
end
end stun
end Go.Proofs.Ytggammbhmoippaa
