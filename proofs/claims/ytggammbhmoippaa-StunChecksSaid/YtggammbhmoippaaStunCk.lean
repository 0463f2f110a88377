/- Checking signed messages, walked: the program's and the document's. -/
import Derived.Test.YtggammbhmoippaaStunRS
import Derived.Test.YtggammbhmoippaaHAuto
namespace Go.Proofs.Ytggammbhmoippaa
set_option linter.unusedVariables false
set_option linter.unusedSimpArgs false
open Go.RowKit
namespace stun
namespace FxStunCk
set_option maxRecDepth 100000
theorem ag25 : Program.aggN Try.prog 25 = some 15 := by kernel_rfl
theorem ag34 : Program.aggN Try.prog 34 = some 15 := by kernel_rfl
theorem fo25_3 : Program.fieldOff Try.prog 25 3 = some 14 := by kernel_rfl
theorem fo34_3 : Program.fieldOff Try.prog 34 3 = some 14 := by kernel_rfl
theorem pl25 : Program.places Try.prog 25 = some [(0, 1), (1, 1), (2, 12), (14, 1)] := by kernel_rfl
theorem pl34 : Program.places Try.prog 34 = some [(0, 1), (1, 1), (2, 12), (14, 1)] := by kernel_rfl
theorem sc23 : Program.isSc Try.prog 23 = true := by kernel_rfl
theorem sc32 : Program.isSc Try.prog 32 = true := by kernel_rfl
theorem sz25 : (Try.prog.info? 25).map (·.size) = some 15 := by kernel_rfl
theorem sz34 : (Try.prog.info? 34).map (·.size) = some 15 := by kernel_rfl
theorem sz65 : (Try.prog.info? 65).map (·.size) = some 2 := by kernel_rfl
theorem sz73 : (Try.prog.info? 73).map (·.size) = some 2 := by kernel_rfl
theorem zc25 : Program.zeroC Try.prog 25 = some #[.int .i64 0, .int .i64 0, .int .u8 0, .int .u8 0, .int .u8 0, .int .u8 0, .int .u8 0, .int .u8 0, .int .u8 0, .int .u8 0, .int .u8 0, .int .u8 0, .int .u8 0, .int .u8 0, .slice none 0 0] := by kernel_rfl
theorem zc34 : Program.zeroC Try.prog 34 = some #[.int .i64 0, .int .i64 0, .int .u8 0, .int .u8 0, .int .u8 0, .int .u8 0, .int .u8 0, .int .u8 0, .int .u8 0, .int .u8 0, .int .u8 0, .int .u8 0, .int .u8 0, .int .u8 0, .slice none 0 0] := by kernel_rfl
end FxStunCk
open FxStunCk
--REG bytes.Equal : _ _ ⟨rfl, rfl⟩ => (stun.Equal_fn _ _ _ _ _ _ _ _ _ _ (by first | exact Reads.rds | exact Reads.owns) (by first | exact Reads.rds | exact Reads.owns) _)
theorem Equal_fn (A B : SA) (a : Option Addr) (n cap : Nat) (x : List UInt8) (b : Option Addr) (m cb : Nat) (y : List UInt8) (hA : Reads A 1 (.slice a n cap) n (x.map v8)) (hB : Reads B 1 (.slice b m cb) m (y.map v8)) (L : List SA) :
    Fn Try.prog 52 [.slice a n cap, .slice b m cb] (A :: B :: L) (fun v L' => v = .bool (decide (x = y)) ∧ L' = A :: B :: L) := by
  refine Fn.of (N := 10) Try.func52 rfl rfl ?_
  intro Xh
  refine TC.seq ?_
  refine TC.region ?_
  refine TL.val rfl rfl rfl (Y.assign rfl rfl) ?_
  refine TL.nil ?_
  refine TQ.next ?_
  refine TC.seq ?_
  refine TC.region ?_
  refine TL.val rfl rfl rfl (Y.move rfl rfl) ?_
  refine TL.val rfl rfl rfl (by first | exact Y.str rfl Try.underlying27 Try.underlying9 Try.underlying5 rfl Reads.rds inn | exact Y.str rfl Try.underlying27 Try.underlying9 Try.underlying5 rfl Reads.owns inn | exact Y.str rfl Try.underlying27 Try.underlying9 Try.underlying5 rfl (by assumption) inn) ?_
  refine TL.val rfl rfl rfl (Y.move rfl rfl) ?_
  refine TL.val rfl rfl rfl (by first | exact Y.str rfl Try.underlying27 Try.underlying9 Try.underlying5 rfl Reads.rds inn | exact Y.str rfl Try.underlying27 Try.underlying9 Try.underlying5 rfl Reads.owns inn | exact Y.str rfl Try.underlying27 Try.underlying9 Try.underlying5 rfl (by assumption) inn) ?_
  refine TL.val rfl rfl rfl (Y.eqStr rfl rfl rfl) ?_
  refine TL.val rfl rfl rfl (Y.assign rfl rfl) ?_
  refine TL.nil ?_
  refine TQ.next ?_
  refine TC.ret ?_
  refine TQ.retE (res1 rfl rfl) (⟨rfl, rfl⟩) ?_
  exact ett
theorem PR.len16 {b : List UInt8} {c m : Int} {f : Nat → UInt8} {l : List At} {e : Nat} (h : PR b c m f (l.map pl) e) : l.length ≤ 16 := by
  rcases h with ⟨rfl, h⟩ | ⟨rfl, rfl, rfl, rfl, h, -⟩
  · have := (good_parts ((build_iff _ _).1 h).1).2.2.2.2.2
    simpa only [List.length_map] using this
  · have : l = [] := by simpa using h
    subst this; simp
theorem SM_take (c m : Int) (f : Nat → UInt8) (a : Option Addr) (cap k : Nat) (l : List At) : SM c m f ⟨a, cap, l.take k⟩ = ⟨c, m, idL f, (l.map pl).take k⟩ := by simp [SM, List.map_take]
theorem ob_none' {o : Option (List UInt8)} (h : oe o = 0) : o = some (ob o) := ob_some h
theorem CR.bad {b key : List UInt8} {c0 m0 : Int} {f0 : Nat → UInt8} {l0 : List At} {e0 : Nat} (hP : PR b c0 m0 f0 (l0.map pl) e0) (h : ¬ e0 = 0) : CR b key 0 0 (fun _ => 0) [] e0 := by
  refine ⟨c0, m0, f0, _, e0, hP, .inr ⟨fun g => h g.1, rfl, rfl, rfl, rfl, ?_⟩⟩
  rw [if_neg h]
  rcases hP with ⟨rfl, -⟩ | ⟨rfl, -⟩
  · exact absurd rfl h
  · rfl
theorem CR.few {b key : List UInt8} {c0 m0 : Int} {f0 : Nat → UInt8} {l0 : List At} {e0 : Nat} (hP : PR b c0 m0 f0 (l0.map pl) e0) (h0 : e0 = 0) (h : l0.length < 2) : CR b key 0 0 (fun _ => 0) [] 4 := by
  refine ⟨c0, m0, f0, _, e0, hP, .inr ⟨fun g => ?_, rfl, rfl, rfl, rfl, by rw [if_pos h0]⟩⟩
  have := g.2.1
  rw [List.length_map] at this; omega
theorem CR.not {b key : List UInt8} {c0 m0 : Int} {f0 : Nat → UInt8} {l0 : List At} {e0 : Nat} (hP : PR b c0 m0 f0 (l0.map pl) e0) (h0 : e0 = 0) (h : (⟨c0, m0, idL f0, (l0.map pl).take (l0.length - 2)⟩ : SMsg).sgn key ≠ some b) : CR b key 0 0 (fun _ => 0) [] 4 := by
  refine ⟨c0, m0, f0, _, e0, hP, .inr ⟨fun g => h (by have := g.2.2; rwa [List.length_map] at this), rfl, rfl, rfl, rfl, by rw [if_pos h0]⟩⟩
theorem CR.yes {b key : List UInt8} {c0 m0 : Int} {f0 : Nat → UInt8} {l0 : List At} {e0 : Nat} (hP : PR b c0 m0 f0 (l0.map pl) e0) (h0 : e0 = 0) (h2 : 2 ≤ l0.length) (h : (⟨c0, m0, idL f0, (l0.map pl).take (l0.length - 2)⟩ : SMsg).sgn key = some b) : CR b key c0 m0 f0 (l0.map pl) 0 :=
  ⟨c0, m0, f0, _, e0, hP, .inl ⟨h0, by rw [List.length_map]; exact h2, by rw [List.length_map]; exact h, rfl, rfl, rfl, rfl, rfl⟩⟩
theorem sgn_ne1 {o : Option (List UInt8)} {b : List UInt8} (h : ¬ oe o = 0) : o ≠ some b := fun e => by subst e; exact h rfl
theorem sgn_ne2 {o : Option (List UInt8)} {b : List UInt8} (h : ¬ b = ob o) : o ≠ some b := fun e => by subst e; exact h rfl
theorem sgn_eq2 {o : Option (List UInt8)} {b : List UInt8} (h0 : oe o = 0) (h : b = ob o) : o = some b := by rw [h]; exact ob_some h0
set_option maxHeartbeats 1000000 in
--REG rostrum/stun.Check : _ _ ⟨kc{d}, km{d}, kf{d}, ka{d}, kcap{d}, kl{d}, ke{d}, rfl, hC{d}, rfl⟩ => (stun.Check_fn _ _ _ _ (by first | assumption | rfl) (by omega) _ _ _ _ (by first | assumption | rfl) (by omega) _)
theorem Check_fn (a : Option Addr) (n cap : Nat) (b : List UInt8) (hn : b.length = n) (hr : n ≤ 140737488351232) (ka : Option Addr) (kn kc : Nat) (key : List UInt8) (hk : key.length = kn) (hkl : kn ≤ 140737488351232) (L : List SA) :
    Fn Try.prog 27 [.slice a n cap, .slice ka kn kc] (SA.rds 1 (.slice a n cap) n (b.map v8) :: SA.rds 1 (.slice ka kn kc) kn (key.map v8) :: L)
      (fun v L' => ∃ c m f' a' cap' l' e, v = .tuple #[.agg (msgC c m f' (.slice a' (l' : List At).length cap')), vN e] ∧ CR b key c m f' (l'.map pl) e ∧
        L' = SA.dat (⟨a', cap', l'⟩ : Sl At) :: SA.rds 1 (.slice a n cap) n (b.map v8) :: SA.rds 1 (.slice ka kn kc) kn (key.map v8) :: L) := by
  refine Fn.of (N := 51) Try.func27 rfl rfl ?_
  intro Xh
  refine TC.seq ?_
  refine TC.region ?_
  refine TL.eff rfl rfl rfl (X.alloc rfl zc34) ?_
  rintro _ _ ⟨b4, rfl, rfl⟩
  refine TL.val rfl rfl rfl (Y.assign rfl rfl) ?_
  refine TL.nil ?_
  refine TQ.next ?_
  refine TC.seq ?_
  refine TC.region ?_
  refine TL.val rfl rfl rfl (Y.move rfl rfl) ?_
  refine TL.eff rfl rfl rfl (X.call rfl Try.func14 (by kernel_rfl) rfl rfl (Fn.preE (by repeat first | (with_reducible apply Ent.refl) | (apply Ent.cons; case h => first | (with_reducible (repeat first | apply Pull.here | apply Pull.there); done) | (repeat first | apply Pull.here | apply Pull.there))) (stun.Parse_fn _ _ _ _ (by first | assumption | rfl) (by omega) _))) ?_
  rintro _ _ ⟨pc13, pm13, pf13, pa13, pcap13, pl13, pe13, rfl, hP13, rfl⟩
  refine TL.val rfl rfl rfl (Y.move rfl rfl) ?_
  refine TL.val rfl rfl rfl (Y.extract rfl rfl rfl) ?_
  refine TL.val rfl rfl rfl (Y.extract rfl rfl rfl) ?_
  refine TL.eff rfl rfl rfl (X.alloc rfl zc34) ?_
  rintro _ _ ⟨b6, rfl, rfl⟩
  refine TL.eff0 rfl rfl (X.storeAll rfl (by kernel_rfl) (msgC_size _ _ _ _) rfl rfl (msg_one _ _ _ _ _ _) pul rfl) ?_
  rintro _ _ rfl
  refine TL.val rfl rfl rfl (Y.assign rfl rfl) ?_
  refine TL.nil ?_
  refine TQ.next ?_
  refine TC.seq ?_
  refine TC.seq ?_
  refine TC.region ?_
  refine TL.val rfl rfl rfl (Y.move rfl rfl) ?_
  refine TL.val rfl rfl rfl (Y.bin rfl rfl rfl (br_neN (n := 0))) ?_
  refine TL.nil ?_
  have hl16 := PR.len16 hP13
  refine TQ.next ?_
  refine TC.cond rfl (fun c0 => ?_) (fun c0 => ?_)
  · try simp only [decide_eq_true_eq, decide_eq_false_iff_not, Bool.not_eq_true', Bool.not_eq_false', Bool.and_eq_true, Bool.or_eq_true, Nat.not_lt, Nat.not_le, beq_iff_eq, bne_iff_ne] at c0
    refine TC.seq ?_
    refine TC.region ?_
    refine TL.val rfl rfl rfl (Y.buildS rfl rfl pl34 zc34 rfl) ?_
    refine TL.as (.agg zmsg) (by rfl) ?_
    refine TL.val rfl rfl rfl (Y.move rfl rfl) ?_
    refine TL.eff0 rfl rfl (by first | exact X.storeAll rfl sz34 (by rfl) rfl rfl (allOne (by rfl)) pul (by rfl) | exact X.storeAll rfl sz34 szz rfl rfl (by simp [Value.oneCell']) pul szz | exact X.storeAgg rfl sz34 szz rfl rfl (by simp [Value.oneCell']) pul szz (writeM (by ((try simp only [List.length_set, List.length_map, List.length_append, List.length_replicate]); omega)))) ?_
    rintro _ _ rfl
    refine TL.val rfl rfl rfl (Y.assign rfl rfl) ?_
    refine TL.nil ?_
    have hC := CR.bad (key := key) hP13 c0
    refine TQ.next ?_
    refine TC.ret ?_
    refine TQ.then_ret ?_
    refine TQ.retE (resL rfl (Res.agg rfl ag34 (by first | exact Cels.all (cs := zmsg) inn | exact Cels.all (cs := msgC pc13 pm13 pf13 (.slice pa13 pl13.length pcap13)) inn) (by first | rfl | assumption | omega) (Res.tmp rfl Res.nil))) ((by first | exact ⟨0, 0, fun _ => 0, none, 0, [], _, rfl, hC, rfl⟩ | exact ⟨_, _, _, _, _, pl13, 0, rfl, hC, rfl⟩)) ?_
    exact (by first | exact Ent.trans Ent.dat0 ett | exact ett)
  · try simp only [decide_eq_true_eq, decide_eq_false_iff_not, Bool.not_eq_true', Bool.not_eq_false', Bool.and_eq_true, Bool.or_eq_true, Nat.not_lt, Nat.not_le, beq_iff_eq, bne_iff_ne] at c0
    refine TC.skip ?_
    refine TQ.next ?_
    refine TC.seq ?_
    refine TC.region ?_
    refine TL.val rfl rfl rfl (Y.loadAgg rfl ag34 rfl (Cels.all (cs := msgC pc13 pm13 pf13 (.slice pa13 pl13.length pcap13)) inn) (by first | rfl | ((try simp only [List.length_map, List.length_set, List.length_replicate]); omega))) ?_
    refine TL.as (.agg (msgC pc13 pm13 pf13 (.slice pa13 pl13.length pcap13))) (by rfl) ?_
    refine TL.eff rfl rfl rfl (X.alloc rfl zc34) ?_
    rintro _ _ ⟨b8, rfl, rfl⟩
    refine TL.eff0 rfl rfl (X.storeAll rfl (by kernel_rfl) (msgC_size _ _ _ _) rfl rfl (msg_one _ _ _ _ _ _) pul rfl) ?_
    rintro _ _ rfl
    refine TL.nil ?_
    refine TQ.next ?_
    refine TC.seq ?_
    refine TC.seq ?_
    refine TC.know (dat_cap (a := pa13) (l := pl13) inn) ?_
    rintro ⟨hc1, hc2, -⟩
    have hmx : max ((pl13.length : Int) - 2) 0 = ((pl13.length - 2 : Nat) : Int) := by omega
    refine TC.region ?_
    refine TL.val rfl rfl rfl (by first | exact Y.fieldAddrJ rfl fo34_3 rfl nqq | exact Y.fieldAddr rfl fo34_3 rfl nqq) ?_
    refine TL.val rfl rfl rfl (Y.load rfl sc32 rfl celD) ?_
    refine TL.as (.slice pa13 pl13.length pcap13) (by rfl) ?_
    refine TL.val rfl rfl rfl (by first | exact Y.fieldAddrJ rfl fo34_3 rfl nqq | exact Y.fieldAddr rfl fo34_3 rfl nqq) ?_
    refine TL.val rfl rfl rfl (Y.load rfl sc32 rfl celD) ?_
    refine TL.as (.slice pa13 pl13.length pcap13) (by rfl) ?_
    refine TL.val rfl rfl rfl (Y.len rfl Try.underlying32 rfl) ?_
    refine TL.val rfl rfl rfl (Y.bin rfl rfl rfl (br_subI (n := 2) (by omega) (by omega))) ?_
    refine TL.val rfl rfl rfl (Y.maxI (n := 0) rfl rfl rfl) ?_
    refine TL.as (vN (pl13.length - 2)) (by rw [hmx]) ?_
    refine TL.val rfl rfl rfl (Y.sliceHi2 rfl Try.underlying32 sz73 rfl rfl (by omega)) ?_
    refine TL.val rfl rfl rfl (by first | exact Y.fieldAddrJ rfl fo34_3 rfl nqq | exact Y.fieldAddr rfl fo34_3 rfl nqq) ?_
    refine TL.eff0 rfl rfl (X.store rfl (by kernel_rfl) rfl rfl rfl pul (by rw [msgC_size]; omega) rfl) ?_
    rintro _ _ rfl
    rw [show (msgC pc13 pm13 pf13 (.slice pa13 pl13.length pcap13)).setIfInBounds 14 (.slice pa13 (pl13.length - 2) pcap13) = msgC pc13 pm13 pf13 (.slice pa13 (pl13.length - 2) pcap13) from rfl]
    refine TL.nil ?_
    refine TQ.next ?_
    refine TC.seq ?_
    refine TC.region ?_
    refine TL.val rfl rfl rfl (by first | exact Y.fieldAddrJ rfl fo34_3 rfl nqq | exact Y.fieldAddr rfl fo34_3 rfl nqq) ?_
    refine TL.val rfl rfl rfl (Y.load rfl sc32 rfl celD) ?_
    refine TL.as (.slice pa13 pl13.length pcap13) (by rfl) ?_
    refine TL.val rfl rfl rfl (Y.len rfl Try.underlying32 rfl) ?_
    refine TL.val rfl rfl rfl (Y.bin rfl rfl rfl (br_ltN (n := 2))) ?_
    refine TL.nil ?_
    refine TQ.next ?_
    refine TC.cond rfl (fun c1 => ?_) (fun c1 => ?_)
    · try simp only [decide_eq_true_eq, decide_eq_false_iff_not, Bool.not_eq_true', Bool.not_eq_false', Bool.and_eq_true, Bool.or_eq_true, Nat.not_lt, Nat.not_le, beq_iff_eq, bne_iff_ne] at c1
      refine TC.seq ?_
      refine TC.region ?_
      refine TL.val rfl rfl rfl (Y.buildS rfl rfl pl34 zc34 rfl) ?_
      refine TL.as (.agg zmsg) (by rfl) ?_
      refine TL.eff0 rfl rfl (by first | exact X.storeAll rfl sz34 (by rfl) rfl rfl (allOne (by rfl)) pul (by rfl) | exact X.storeAll rfl sz34 szz rfl rfl (by simp [Value.oneCell']) pul szz | exact X.storeAgg rfl sz34 szz rfl rfl (by simp [Value.oneCell']) pul szz (writeM (by ((try simp only [List.length_set, List.length_map, List.length_append, List.length_replicate]); omega)))) ?_
      rintro _ _ rfl
      refine TL.val rfl rfl rfl (Y.assign rfl rfl) ?_
      refine TL.nil ?_
      have hC := CR.few (key := key) hP13 c0 c1
      refine TQ.next ?_
      refine TC.ret ?_
      refine TQ.then_ret ?_
      refine TQ.retE (resL rfl (Res.agg rfl ag34 (by first | exact Cels.all (cs := zmsg) inn | exact Cels.all (cs := msgC pc13 pm13 pf13 (.slice pa13 pl13.length pcap13)) inn) (by first | rfl | assumption | omega) (Res.tmp rfl Res.nil))) ((by first | exact ⟨0, 0, fun _ => 0, none, 0, [], _, rfl, hC, rfl⟩ | exact ⟨_, _, _, _, _, pl13, 0, rfl, hC, rfl⟩)) ?_
      exact (by first | exact Ent.trans Ent.dat0 ett | exact ett)
    · try simp only [decide_eq_true_eq, decide_eq_false_iff_not, Bool.not_eq_true', Bool.not_eq_false', Bool.and_eq_true, Bool.or_eq_true, Nat.not_lt, Nat.not_le, beq_iff_eq, bne_iff_ne] at c1
      refine TC.skip ?_
      refine TQ.next ?_
      refine TC.seq ?_
      refine TC.seq ?_
      obtain ⟨tk, htk0⟩ : ∃ tk, tk = pl13.take (pl13.length - 2) := ⟨_, rfl⟩
      have htk : pl13.length - 2 = tk.length := by rw [htk0, List.length_take]; omega
      have hSM : SM pc13 pm13 pf13 ⟨pa13, pcap13, tk⟩ = (⟨pc13, pm13, idL pf13, (pl13.map pl).take (pl13.length - 2)⟩ : SMsg) := by rw [htk0]; exact SM_take _ _ _ _ _ _ _
      refine TC.to (Ent.headSl (a := pa13) (l := pl13) (k := pl13.length - 2) pul (by omega)) ?_
      rw [← htk0, htk]
      refine TC.region ?_
      refine TL.val rfl rfl rfl (Y.loadAgg rfl ag34 rfl (Cels.all (cs := msgC pc13 pm13 pf13 (.slice pa13 tk.length pcap13)) inn) (by first | rfl | ((try simp only [List.length_map, List.length_set, List.length_replicate]); omega))) ?_
      refine TL.as (.agg (msgC pc13 pm13 pf13 (.slice pa13 tk.length pcap13))) (by rfl) ?_
      refine TL.val rfl rfl rfl (Y.move rfl rfl) ?_
      refine TL.eff rfl rfl rfl (X.call rfl Try.func26 (by kernel_rfl) rfl rfl (Fn.preE (by repeat first | (with_reducible apply Ent.refl) | (apply Ent.cons; case h => first | (with_reducible (repeat first | apply Pull.here | apply Pull.there); done) | (repeat first | apply Pull.here | apply Pull.there))) (Sign_fn pc13 pm13 pf13 pa13 pcap13 tk _ _ _ key hk hkl _))) ?_
      rintro _ _ ⟨a38, c38, rfl, rfl⟩
      rw [hSM]
      obtain ⟨o, ho⟩ : ∃ o, o = (⟨pc13, pm13, idL pf13, (pl13.map pl).take (pl13.length - 2)⟩ : SMsg).sgn key := ⟨_, rfl⟩
      rw [← ho]
      refine TL.val rfl rfl rfl (Y.move rfl rfl) ?_
      refine TL.val rfl rfl rfl (Y.extract rfl rfl rfl) ?_
      refine TL.val rfl rfl rfl (Y.extract rfl rfl rfl) ?_
      refine TL.val rfl rfl rfl (Y.assign rfl rfl) ?_
      refine TL.val rfl rfl rfl (Y.assign rfl rfl) ?_
      refine TL.nil ?_
      refine TQ.next ?_
      refine TC.seq ?_
      refine TC.region ?_
      refine TL.val rfl rfl rfl (Y.move rfl rfl) ?_
      refine TL.val rfl rfl rfl (Y.bin rfl rfl rfl (br_neN (n := 0))) ?_
      refine TL.val rfl rfl rfl (Y.move rfl rfl) ?_
      refine TL.case (fun g9_2 => ?_) (fun g9_2 => ?_)
      · try simp only [decide_eq_true_eq, decide_eq_false_iff_not, Bool.not_eq_true', Bool.not_eq_false', Nat.not_lt, Nat.not_le, beq_iff_eq, bne_iff_ne] at g9_2
        refine TL.not rfl rfl rfl ?_
        refine TL.not rfl rfl rfl ?_
        refine TL.not rfl rfl rfl ?_
        refine TL.not rfl rfl rfl ?_
        refine TL.val rfl rfl rfl (Y.pick_t rfl rfl rfl) ?_
        refine TL.nil ?_
        refine TQ.next ?_
        refine TC.cond_t rfl ?_
        refine TC.seq ?_
        refine TC.region ?_
        refine TL.val rfl rfl rfl (Y.buildS rfl rfl pl34 zc34 rfl) ?_
        refine TL.as (.agg zmsg) (by rfl) ?_
        refine TL.eff0 rfl rfl (by first | exact X.storeAll rfl sz34 (by rfl) rfl rfl (allOne (by rfl)) pul (by rfl) | exact X.storeAll rfl sz34 szz rfl rfl (by simp [Value.oneCell']) pul szz | exact X.storeAgg rfl sz34 szz rfl rfl (by simp [Value.oneCell']) pul szz (writeM (by ((try simp only [List.length_set, List.length_map, List.length_append, List.length_replicate]); omega)))) ?_
        rintro _ _ rfl
        refine TL.val rfl rfl rfl (Y.assign rfl rfl) ?_
        refine TL.nil ?_
        have hC : CR b key 0 0 (fun _ => 0) [] 4 := CR.not hP13 c0 (by rw [← ho]; first | exact sgn_ne1 g9_2 | exact sgn_ne2 c2)
        refine TQ.next ?_
        refine TC.ret ?_
        refine TQ.then_ret ?_
        refine TQ.retE (resL rfl (Res.agg rfl ag34 (by first | exact Cels.all (cs := zmsg) inn | exact Cels.all (cs := msgC pc13 pm13 pf13 (.slice pa13 pl13.length pcap13)) inn) (by first | rfl | assumption | omega) (Res.tmp rfl Res.nil))) ((by first | exact ⟨0, 0, fun _ => 0, none, 0, [], _, rfl, hC, rfl⟩ | exact ⟨_, _, _, _, _, pl13, 0, rfl, hC, rfl⟩)) ?_
        exact (by first | exact Ent.trans Ent.dat0 ett | exact ett)
      · try simp only [decide_eq_true_eq, decide_eq_false_iff_not, Bool.not_eq_true', Bool.not_eq_false', Nat.not_lt, Nat.not_le, beq_iff_eq, bne_iff_ne] at g9_2
        refine TL.valG rfl rfl rfl (Y.move rfl rfl) ?_
        refine TL.valG rfl rfl rfl (Y.move rfl rfl) ?_
        refine TL.effG rfl rfl rfl (X.call rfl Try.func52 (by kernel_rfl) rfl rfl (Fn.preE (by repeat first | (with_reducible apply Ent.refl) | (apply Ent.cons; case h => first | (with_reducible (repeat first | apply Pull.here | apply Pull.there); done) | (repeat first | apply Pull.here | apply Pull.there))) (Equal_fn (SA.rds 1 (.slice a n cap) n (b.map v8)) (SA.owns 5 1 (.slice a38 (ob o).length c38) (ob o).length ((ob o).map v8)) _ _ _ b _ _ _ (ob o) Reads.rds Reads.owns _))) ?_
        rintro _ _ ⟨rfl, rfl⟩
        refine TL.valG rfl rfl rfl (Y.not rfl rfl) ?_
        refine TL.val rfl rfl rfl (Y.pick_f rfl rfl rfl) ?_
        refine TL.nil ?_
        refine TQ.next ?_
        refine TC.cond rfl (fun c2 => ?_) (fun c2 => ?_)
        · try simp only [decide_eq_true_eq, decide_eq_false_iff_not, Bool.not_eq_true', Bool.not_eq_false', Bool.and_eq_true, Bool.or_eq_true, Nat.not_lt, Nat.not_le, beq_iff_eq, bne_iff_ne] at c2
          refine TC.seq ?_
          refine TC.region ?_
          refine TL.val rfl rfl rfl (Y.buildS rfl rfl pl34 zc34 rfl) ?_
          refine TL.as (.agg zmsg) (by rfl) ?_
          refine TL.eff0 rfl rfl (by first | exact X.storeAll rfl sz34 (by rfl) rfl rfl (allOne (by rfl)) pul (by rfl) | exact X.storeAll rfl sz34 szz rfl rfl (by simp [Value.oneCell']) pul szz | exact X.storeAgg rfl sz34 szz rfl rfl (by simp [Value.oneCell']) pul szz (writeM (by ((try simp only [List.length_set, List.length_map, List.length_append, List.length_replicate]); omega)))) ?_
          rintro _ _ rfl
          refine TL.val rfl rfl rfl (Y.assign rfl rfl) ?_
          refine TL.nil ?_
          have hC : CR b key 0 0 (fun _ => 0) [] 4 := CR.not hP13 c0 (by rw [← ho]; first | exact sgn_ne1 g9_2 | exact sgn_ne2 c2)
          refine TQ.next ?_
          refine TC.ret ?_
          refine TQ.then_ret ?_
          refine TQ.retE (resL rfl (Res.agg rfl ag34 (by first | exact Cels.all (cs := zmsg) inn | exact Cels.all (cs := msgC pc13 pm13 pf13 (.slice pa13 pl13.length pcap13)) inn) (by first | rfl | assumption | omega) (Res.tmp rfl Res.nil))) ((by first | exact ⟨0, 0, fun _ => 0, none, 0, [], _, rfl, hC, rfl⟩ | exact ⟨_, _, _, _, _, pl13, 0, rfl, hC, rfl⟩)) ?_
          exact (by first | exact Ent.trans Ent.dat0 ett | exact ett)
        · try simp only [decide_eq_true_eq, decide_eq_false_iff_not, Bool.not_eq_true', Bool.not_eq_false', Bool.and_eq_true, Bool.or_eq_true, Nat.not_lt, Nat.not_le, beq_iff_eq, bne_iff_ne] at c2
          refine TC.skip ?_
          refine TQ.next ?_
          refine TC.seq ?_
          have hC : CR b key pc13 pm13 pf13 (pl13.map pl) 0 := CR.yes hP13 c0 (by omega) (by rw [← ho]; exact sgn_eq2 g9_2 c2)
          refine TC.region ?_
          refine TL.val rfl rfl rfl (Y.loadAgg rfl ag34 rfl (Cels.all (cs := msgC pc13 pm13 pf13 (.slice pa13 pl13.length pcap13)) inn) (by first | rfl | ((try simp only [List.length_map, List.length_set, List.length_replicate]); omega))) ?_
          refine TL.as (.agg (msgC pc13 pm13 pf13 (.slice pa13 pl13.length pcap13))) (by rfl) ?_
          refine TL.eff0 rfl rfl (X.storeAll rfl (by kernel_rfl) (msgC_size _ _ _ _) rfl rfl (msg_one _ _ _ _ _ _) pul rfl) ?_
          rintro _ _ rfl
          refine TL.val rfl rfl rfl (Y.assign rfl rfl) ?_
          refine TL.nil ?_
          refine TQ.next ?_
          refine TC.ret ?_
          refine TQ.retE (resL rfl (Res.agg rfl ag34 (by first | exact Cels.all (cs := zmsg) inn | exact Cels.all (cs := msgC pc13 pm13 pf13 (.slice pa13 pl13.length pcap13)) inn) (by first | rfl | assumption | omega) (Res.tmp rfl Res.nil))) ((by first | exact ⟨0, 0, fun _ => 0, none, 0, [], _, rfl, hC, rfl⟩ | exact ⟨_, _, _, _, _, pl13, 0, rfl, hC, rfl⟩)) ?_
          exact (by first | exact Ent.trans Ent.dat0 ett | exact ett)
set_option maxHeartbeats 1000000 in
--REG rostrum/rostrumref04.Check : _ _ ⟨kc{d}, km{d}, kf{d}, ka{d}, kcap{d}, kl{d}, ke{d}, rfl, hC{d}, rfl⟩ => (stun.refCheck_fn _ _ _ _ (by first | assumption | rfl) (by omega) _ _ _ _ (by first | assumption | rfl) (by omega) _)
theorem refCheck_fn (a : Option Addr) (n cap : Nat) (b : List UInt8) (hn : b.length = n) (hr : n ≤ 140737488351232) (ka : Option Addr) (kn kc : Nat) (key : List UInt8) (hk : key.length = kn) (hkl : kn ≤ 140737488351232) (L : List SA) :
    Fn Try.prog 53 [.slice a n cap, .slice ka kn kc] (SA.rds 1 (.slice a n cap) n (b.map v8) :: SA.rds 1 (.slice ka kn kc) kn (key.map v8) :: L)
      (fun v L' => ∃ c m f' a' cap' l' e, v = .tuple #[.agg (msgC c m f' (.slice a' (l' : List At).length cap')), vN e] ∧ CR b key c m f' (l'.map pl) e ∧
        L' = SA.dat (⟨a', cap', l'⟩ : Sl At) :: SA.rds 1 (.slice a n cap) n (b.map v8) :: SA.rds 1 (.slice ka kn kc) kn (key.map v8) :: L) := by
  refine Fn.of (N := 50) Try.func53 rfl rfl ?_
  intro Xh
  refine TC.seq ?_
  refine TC.region ?_
  refine TL.eff rfl rfl rfl (X.alloc rfl zc25) ?_
  rintro _ _ ⟨b4, rfl, rfl⟩
  refine TL.val rfl rfl rfl (Y.assign rfl rfl) ?_
  refine TL.nil ?_
  refine TQ.next ?_
  refine TC.seq ?_
  refine TC.region ?_
  refine TL.val rfl rfl rfl (Y.move rfl rfl) ?_
  refine TL.eff rfl rfl rfl (X.call rfl Try.func13 (by kernel_rfl) rfl rfl (Fn.preE (by repeat first | (with_reducible apply Ent.refl) | (apply Ent.cons; case h => first | (with_reducible (repeat first | apply Pull.here | apply Pull.there); done) | (repeat first | apply Pull.here | apply Pull.there))) (stun.refParse_fn _ _ _ _ (by first | assumption | rfl) (by omega) _))) ?_
  rintro _ _ ⟨pc13, pm13, pf13, pa13, pcap13, pl13, pe13, rfl, hP13, rfl⟩
  refine TL.val rfl rfl rfl (Y.move rfl rfl) ?_
  refine TL.val rfl rfl rfl (Y.extract rfl rfl rfl) ?_
  refine TL.val rfl rfl rfl (Y.extract rfl rfl rfl) ?_
  refine TL.eff rfl rfl rfl (X.alloc rfl zc25) ?_
  rintro _ _ ⟨b6, rfl, rfl⟩
  refine TL.eff0 rfl rfl (X.storeAll rfl (by kernel_rfl) (msgC_size _ _ _ _) rfl rfl (msg_one _ _ _ _ _ _) pul rfl) ?_
  rintro _ _ rfl
  refine TL.val rfl rfl rfl (Y.assign rfl rfl) ?_
  refine TL.nil ?_
  refine TQ.next ?_
  refine TC.seq ?_
  refine TC.seq ?_
  refine TC.region ?_
  refine TL.val rfl rfl rfl (Y.move rfl rfl) ?_
  refine TL.val rfl rfl rfl (Y.bin rfl rfl rfl (br_neN (n := 0))) ?_
  refine TL.nil ?_
  have hl16 := PR.len16 hP13
  refine TQ.next ?_
  refine TC.cond rfl (fun c0 => ?_) (fun c0 => ?_)
  · try simp only [decide_eq_true_eq, decide_eq_false_iff_not, Bool.not_eq_true', Bool.not_eq_false', Bool.and_eq_true, Bool.or_eq_true, Nat.not_lt, Nat.not_le, beq_iff_eq, bne_iff_ne] at c0
    refine TC.seq ?_
    refine TC.region ?_
    refine TL.val rfl rfl rfl (Y.buildS rfl rfl pl25 zc25 rfl) ?_
    refine TL.as (.agg zmsg) (by rfl) ?_
    refine TL.val rfl rfl rfl (Y.move rfl rfl) ?_
    refine TL.eff0 rfl rfl (by first | exact X.storeAll rfl sz25 (by rfl) rfl rfl (allOne (by rfl)) pul (by rfl) | exact X.storeAll rfl sz25 szz rfl rfl (by simp [Value.oneCell']) pul szz | exact X.storeAgg rfl sz25 szz rfl rfl (by simp [Value.oneCell']) pul szz (writeM (by ((try simp only [List.length_set, List.length_map, List.length_append, List.length_replicate]); omega)))) ?_
    rintro _ _ rfl
    refine TL.val rfl rfl rfl (Y.assign rfl rfl) ?_
    refine TL.nil ?_
    have hC := CR.bad (key := key) hP13 c0
    refine TQ.next ?_
    refine TC.ret ?_
    refine TQ.then_ret ?_
    refine TQ.retE (resL rfl (Res.agg rfl ag25 (by first | exact Cels.all (cs := zmsg) inn | exact Cels.all (cs := msgC pc13 pm13 pf13 (.slice pa13 pl13.length pcap13)) inn) (by first | rfl | assumption | omega) (Res.tmp rfl Res.nil))) ((by first | exact ⟨0, 0, fun _ => 0, none, 0, [], _, rfl, hC, rfl⟩ | exact ⟨_, _, _, _, _, pl13, 0, rfl, hC, rfl⟩)) ?_
    exact (by first | exact Ent.trans Ent.dat0 ett | exact ett)
  · try simp only [decide_eq_true_eq, decide_eq_false_iff_not, Bool.not_eq_true', Bool.not_eq_false', Bool.and_eq_true, Bool.or_eq_true, Nat.not_lt, Nat.not_le, beq_iff_eq, bne_iff_ne] at c0
    refine TC.skip ?_
    refine TQ.next ?_
    refine TC.seq ?_
    refine TC.region ?_
    refine TL.val rfl rfl rfl (by first | exact Y.fieldAddrJ rfl fo25_3 rfl nqq | exact Y.fieldAddr rfl fo25_3 rfl nqq) ?_
    refine TL.val rfl rfl rfl (Y.load rfl sc23 rfl celD) ?_
    refine TL.as (.slice pa13 pl13.length pcap13) (by rfl) ?_
    refine TL.val rfl rfl rfl (Y.len rfl Try.underlying23 rfl) ?_
    refine TL.val rfl rfl rfl (Y.assign rfl rfl) ?_
    refine TL.nil ?_
    refine TQ.next ?_
    refine TC.seq ?_
    refine TC.seq ?_
    refine TC.region ?_
    refine TL.val rfl rfl rfl (Y.move rfl rfl) ?_
    refine TL.val rfl rfl rfl (Y.bin rfl rfl rfl (br_ltN (n := 2))) ?_
    refine TL.nil ?_
    refine TQ.next ?_
    refine TC.cond rfl (fun c1 => ?_) (fun c1 => ?_)
    · try simp only [decide_eq_true_eq, decide_eq_false_iff_not, Bool.not_eq_true', Bool.not_eq_false', Bool.and_eq_true, Bool.or_eq_true, Nat.not_lt, Nat.not_le, beq_iff_eq, bne_iff_ne] at c1
      refine TC.seq ?_
      refine TC.region ?_
      refine TL.val rfl rfl rfl (Y.buildS rfl rfl pl25 zc25 rfl) ?_
      refine TL.as (.agg zmsg) (by rfl) ?_
      refine TL.eff0 rfl rfl (by first | exact X.storeAll rfl sz25 (by rfl) rfl rfl (allOne (by rfl)) pul (by rfl) | exact X.storeAll rfl sz25 szz rfl rfl (by simp [Value.oneCell']) pul szz | exact X.storeAgg rfl sz25 szz rfl rfl (by simp [Value.oneCell']) pul szz (writeM (by ((try simp only [List.length_set, List.length_map, List.length_append, List.length_replicate]); omega)))) ?_
      rintro _ _ rfl
      refine TL.val rfl rfl rfl (Y.assign rfl rfl) ?_
      refine TL.nil ?_
      have hC := CR.few (key := key) hP13 c0 c1
      refine TQ.next ?_
      refine TC.ret ?_
      refine TQ.then_ret ?_
      refine TQ.retE (resL rfl (Res.agg rfl ag25 (by first | exact Cels.all (cs := zmsg) inn | exact Cels.all (cs := msgC pc13 pm13 pf13 (.slice pa13 pl13.length pcap13)) inn) (by first | rfl | assumption | omega) (Res.tmp rfl Res.nil))) ((by first | exact ⟨0, 0, fun _ => 0, none, 0, [], _, rfl, hC, rfl⟩ | exact ⟨_, _, _, _, _, pl13, 0, rfl, hC, rfl⟩)) ?_
      exact (by first | exact Ent.trans Ent.dat0 ett | exact ett)
    · try simp only [decide_eq_true_eq, decide_eq_false_iff_not, Bool.not_eq_true', Bool.not_eq_false', Bool.and_eq_true, Bool.or_eq_true, Nat.not_lt, Nat.not_le, beq_iff_eq, bne_iff_ne] at c1
      refine TC.skip ?_
      refine TQ.next ?_
      refine TC.seq ?_
      refine TC.region ?_
      refine TL.val rfl rfl rfl (Y.loadAgg rfl ag25 rfl (Cels.all (cs := msgC pc13 pm13 pf13 (.slice pa13 pl13.length pcap13)) inn) (by first | rfl | ((try simp only [List.length_map, List.length_set, List.length_replicate]); omega))) ?_
      refine TL.as (.agg (msgC pc13 pm13 pf13 (.slice pa13 pl13.length pcap13))) (by rfl) ?_
      refine TL.eff rfl rfl rfl (X.alloc rfl zc25) ?_
      rintro _ _ ⟨b9, rfl, rfl⟩
      refine TL.eff0 rfl rfl (X.storeAll rfl (by kernel_rfl) (msgC_size _ _ _ _) rfl rfl (msg_one _ _ _ _ _ _) pul rfl) ?_
      rintro _ _ rfl
      refine TL.nil ?_
      refine TQ.next ?_
      refine TC.seq ?_
      refine TC.know (dat_cap (a := pa13) (l := pl13) inn) ?_
      rintro ⟨hc1, hc2, -⟩
      refine TC.region ?_
      refine TL.val rfl rfl rfl (by first | exact Y.fieldAddrJ rfl fo25_3 rfl nqq | exact Y.fieldAddr rfl fo25_3 rfl nqq) ?_
      refine TL.val rfl rfl rfl (Y.load rfl sc23 rfl celD) ?_
      refine TL.as (.slice pa13 pl13.length pcap13) (by rfl) ?_
      refine TL.val rfl rfl rfl (Y.move rfl rfl) ?_
      refine TL.val rfl rfl rfl (Y.bin rfl rfl rfl (br_subN (n := 2) (by omega) (by omega))) ?_
      refine TL.val rfl rfl rfl (Y.sliceHi2 rfl Try.underlying23 sz65 rfl rfl (by omega)) ?_
      refine TL.val rfl rfl rfl (by first | exact Y.fieldAddrJ rfl fo25_3 rfl nqq | exact Y.fieldAddr rfl fo25_3 rfl nqq) ?_
      refine TL.eff0 rfl rfl (X.store rfl (by kernel_rfl) rfl rfl rfl pul (by rw [msgC_size]; omega) rfl) ?_
      rintro _ _ rfl
      rw [show (msgC pc13 pm13 pf13 (.slice pa13 pl13.length pcap13)).setIfInBounds 14 (.slice pa13 (pl13.length - 2) pcap13) = msgC pc13 pm13 pf13 (.slice pa13 (pl13.length - 2) pcap13) from rfl]
      refine TL.nil ?_
      refine TQ.next ?_
      refine TC.seq ?_
      obtain ⟨tk, htk0⟩ : ∃ tk, tk = pl13.take (pl13.length - 2) := ⟨_, rfl⟩
      have htk : pl13.length - 2 = tk.length := by rw [htk0, List.length_take]; omega
      have hSM : SM pc13 pm13 pf13 ⟨pa13, pcap13, tk⟩ = (⟨pc13, pm13, idL pf13, (pl13.map pl).take (pl13.length - 2)⟩ : SMsg) := by rw [htk0]; exact SM_take _ _ _ _ _ _ _
      refine TC.to (Ent.headSl (a := pa13) (l := pl13) (k := pl13.length - 2) pul (by omega)) ?_
      rw [← htk0, htk]
      refine TC.region ?_
      refine TL.val rfl rfl rfl (Y.loadAgg rfl ag25 rfl (Cels.all (cs := msgC pc13 pm13 pf13 (.slice pa13 tk.length pcap13)) inn) (by first | rfl | ((try simp only [List.length_map, List.length_set, List.length_replicate]); omega))) ?_
      refine TL.as (.agg (msgC pc13 pm13 pf13 (.slice pa13 tk.length pcap13))) (by rfl) ?_
      refine TL.val rfl rfl rfl (Y.move rfl rfl) ?_
      refine TL.eff rfl rfl rfl (X.call rfl Try.func25 (by kernel_rfl) rfl rfl (Fn.preE (by repeat first | (with_reducible apply Ent.refl) | (apply Ent.cons; case h => first | (with_reducible (repeat first | apply Pull.here | apply Pull.there); done) | (repeat first | apply Pull.here | apply Pull.there))) (refSign_fn pc13 pm13 pf13 pa13 pcap13 tk _ _ _ key hk hkl (by omega) _))) ?_
      rintro _ _ ⟨a36, c36, rfl, rfl⟩
      rw [hSM]
      obtain ⟨o, ho⟩ : ∃ o, o = (⟨pc13, pm13, idL pf13, (pl13.map pl).take (pl13.length - 2)⟩ : SMsg).sgn key := ⟨_, rfl⟩
      rw [← ho]
      refine TL.val rfl rfl rfl (Y.move rfl rfl) ?_
      refine TL.val rfl rfl rfl (Y.extract rfl rfl rfl) ?_
      refine TL.val rfl rfl rfl (Y.extract rfl rfl rfl) ?_
      refine TL.val rfl rfl rfl (Y.assign rfl rfl) ?_
      refine TL.val rfl rfl rfl (Y.assign rfl rfl) ?_
      refine TL.nil ?_
      refine TQ.next ?_
      refine TC.seq ?_
      refine TC.seq ?_
      refine TC.region ?_
      refine TL.val rfl rfl rfl (Y.move rfl rfl) ?_
      refine TL.val rfl rfl rfl (Y.bin rfl rfl rfl (br_neN (n := 0))) ?_
      refine TL.val rfl rfl rfl (Y.move rfl rfl) ?_
      refine TL.case (fun g10_2 => ?_) (fun g10_2 => ?_)
      · try simp only [decide_eq_true_eq, decide_eq_false_iff_not, Bool.not_eq_true', Bool.not_eq_false', Nat.not_lt, Nat.not_le, beq_iff_eq, bne_iff_ne] at g10_2
        refine TL.not rfl rfl rfl ?_
        refine TL.not rfl rfl rfl ?_
        refine TL.not rfl rfl rfl ?_
        refine TL.not rfl rfl rfl ?_
        refine TL.not rfl rfl rfl ?_
        refine TL.val rfl rfl rfl (Y.pick_t rfl rfl rfl) ?_
        refine TL.nil ?_
        refine TQ.next ?_
        refine TC.cond_t rfl ?_
        refine TC.seq ?_
        refine TC.region ?_
        refine TL.val rfl rfl rfl (Y.buildS rfl rfl pl25 zc25 rfl) ?_
        refine TL.as (.agg zmsg) (by rfl) ?_
        refine TL.eff0 rfl rfl (by first | exact X.storeAll rfl sz25 (by rfl) rfl rfl (allOne (by rfl)) pul (by rfl) | exact X.storeAll rfl sz25 szz rfl rfl (by simp [Value.oneCell']) pul szz | exact X.storeAgg rfl sz25 szz rfl rfl (by simp [Value.oneCell']) pul szz (writeM (by ((try simp only [List.length_set, List.length_map, List.length_append, List.length_replicate]); omega)))) ?_
        rintro _ _ rfl
        refine TL.val rfl rfl rfl (Y.assign rfl rfl) ?_
        refine TL.nil ?_
        have hC : CR b key 0 0 (fun _ => 0) [] 4 := CR.not hP13 c0 (by rw [← ho]; first | exact sgn_ne1 g10_2 | exact sgn_ne2 (fun h => c2 h.symm))
        refine TQ.next ?_
        refine TC.ret ?_
        refine TQ.then_ret ?_
        refine TQ.retE (resL rfl (Res.agg rfl ag25 (by first | exact Cels.all (cs := zmsg) inn | exact Cels.all (cs := msgC pc13 pm13 pf13 (.slice pa13 pl13.length pcap13)) inn) (by first | rfl | assumption | omega) (Res.tmp rfl Res.nil))) ((by first | exact ⟨0, 0, fun _ => 0, none, 0, [], _, rfl, hC, rfl⟩ | exact ⟨_, _, _, _, _, pl13, 0, rfl, hC, rfl⟩)) ?_
        exact (by first | exact Ent.trans Ent.dat0 ett | exact ett)
      · try simp only [decide_eq_true_eq, decide_eq_false_iff_not, Bool.not_eq_true', Bool.not_eq_false', Nat.not_lt, Nat.not_le, beq_iff_eq, bne_iff_ne] at g10_2
        refine TL.valG rfl rfl rfl (Y.move rfl rfl) ?_
        refine TL.valG rfl rfl rfl (by first | exact Y.str rfl Try.underlying27 Try.underlying9 Try.underlying5 rfl Reads.rds inn | exact Y.str rfl Try.underlying27 Try.underlying9 Try.underlying5 rfl Reads.owns inn | exact Y.str rfl Try.underlying27 Try.underlying9 Try.underlying5 rfl (by assumption) inn) ?_
        refine TL.valG rfl rfl rfl (Y.move rfl rfl) ?_
        refine TL.valG rfl rfl rfl (by first | exact Y.str rfl Try.underlying27 Try.underlying9 Try.underlying5 rfl Reads.rds inn | exact Y.str rfl Try.underlying27 Try.underlying9 Try.underlying5 rfl Reads.owns inn | exact Y.str rfl Try.underlying27 Try.underlying9 Try.underlying5 rfl (by assumption) inn) ?_
        refine TL.valG rfl rfl rfl (Y.neStr rfl rfl rfl) ?_
        refine TL.val rfl rfl rfl (Y.pick_f rfl rfl rfl) ?_
        refine TL.nil ?_
        refine TQ.next ?_
        refine TC.cond rfl (fun c2 => ?_) (fun c2 => ?_)
        · try simp only [decide_eq_true_eq, decide_eq_false_iff_not, Bool.not_eq_true', Bool.not_eq_false', Bool.and_eq_true, Bool.or_eq_true, Nat.not_lt, Nat.not_le, beq_iff_eq, bne_iff_ne] at c2
          refine TC.seq ?_
          refine TC.region ?_
          refine TL.val rfl rfl rfl (Y.buildS rfl rfl pl25 zc25 rfl) ?_
          refine TL.as (.agg zmsg) (by rfl) ?_
          refine TL.eff0 rfl rfl (by first | exact X.storeAll rfl sz25 (by rfl) rfl rfl (allOne (by rfl)) pul (by rfl) | exact X.storeAll rfl sz25 szz rfl rfl (by simp [Value.oneCell']) pul szz | exact X.storeAgg rfl sz25 szz rfl rfl (by simp [Value.oneCell']) pul szz (writeM (by ((try simp only [List.length_set, List.length_map, List.length_append, List.length_replicate]); omega)))) ?_
          rintro _ _ rfl
          refine TL.val rfl rfl rfl (Y.assign rfl rfl) ?_
          refine TL.nil ?_
          have hC : CR b key 0 0 (fun _ => 0) [] 4 := CR.not hP13 c0 (by rw [← ho]; first | exact sgn_ne1 g10_2 | exact sgn_ne2 (fun h => c2 h.symm))
          refine TQ.next ?_
          refine TC.ret ?_
          refine TQ.then_ret ?_
          refine TQ.retE (resL rfl (Res.agg rfl ag25 (by first | exact Cels.all (cs := zmsg) inn | exact Cels.all (cs := msgC pc13 pm13 pf13 (.slice pa13 pl13.length pcap13)) inn) (by first | rfl | assumption | omega) (Res.tmp rfl Res.nil))) ((by first | exact ⟨0, 0, fun _ => 0, none, 0, [], _, rfl, hC, rfl⟩ | exact ⟨_, _, _, _, _, pl13, 0, rfl, hC, rfl⟩)) ?_
          exact (by first | exact Ent.trans Ent.dat0 ett | exact ett)
        · try simp only [decide_eq_true_eq, decide_eq_false_iff_not, Bool.not_eq_true', Bool.not_eq_false', Bool.and_eq_true, Bool.or_eq_true, Nat.not_lt, Nat.not_le, beq_iff_eq, bne_iff_ne] at c2
          refine TC.skip ?_
          refine TQ.next ?_
          refine TC.seq ?_
          have hC : CR b key pc13 pm13 pf13 (pl13.map pl) 0 := CR.yes hP13 c0 (by omega) (by rw [← ho]; exact sgn_eq2 g10_2 c2.symm)
          refine TC.region ?_
          refine TL.val rfl rfl rfl (Y.loadAgg rfl ag25 rfl (Cels.all (cs := msgC pc13 pm13 pf13 (.slice pa13 pl13.length pcap13)) inn) (by first | rfl | ((try simp only [List.length_map, List.length_set, List.length_replicate]); omega))) ?_
          refine TL.as (.agg (msgC pc13 pm13 pf13 (.slice pa13 pl13.length pcap13))) (by rfl) ?_
          refine TL.eff0 rfl rfl (X.storeAll rfl (by kernel_rfl) (msgC_size _ _ _ _) rfl rfl (msg_one _ _ _ _ _ _) pul rfl) ?_
          rintro _ _ rfl
          refine TL.val rfl rfl rfl (Y.assign rfl rfl) ?_
          refine TL.nil ?_
          refine TQ.next ?_
          refine TC.ret ?_
          refine TQ.retE (resL rfl (Res.agg rfl ag25 (by first | exact Cels.all (cs := zmsg) inn | exact Cels.all (cs := msgC pc13 pm13 pf13 (.slice pa13 pl13.length pcap13)) inn) (by first | rfl | assumption | omega) (Res.tmp rfl Res.nil))) ((by first | exact ⟨0, 0, fun _ => 0, none, 0, [], _, rfl, hC, rfl⟩ | exact ⟨_, _, _, _, _, pl13, 0, rfl, hC, rfl⟩)) ?_
          exact (by first | exact Ent.trans Ent.dat0 ett | exact ett)
end stun
end Go.Proofs.Ytggammbhmoippaa
