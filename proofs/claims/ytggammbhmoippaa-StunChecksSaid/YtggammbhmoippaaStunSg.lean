/- stun.Sign, walked. -/
import Derived.Test.YtggammbhmoippaaStunG
import Derived.Test.YtggammbhmoippaaIdxFAt
import Derived.Test.YtggammbhmoippaaHAuto
namespace Go.Proofs.Ytggammbhmoippaa
set_option linter.unusedVariables false
set_option linter.unusedSimpArgs false
open Go.RowKit
namespace stun
open wr (pad4 be16 be32)
open r1 (be2 be4 be2_len be4_len)
namespace FxStunSg
set_option maxRecDepth 100000
theorem ag34 : Program.aggN Try.prog 34 = some 15 := by kernel_rfl
theorem fo34_3 : Program.fieldOff Try.prog 34 3 = some 14 := by kernel_rfl
theorem fo73_0 : Program.fieldOff Try.prog 73 0 = some 0 := by kernel_rfl
theorem sc32 : Program.isSc Try.prog 32 = true := by kernel_rfl
theorem sc44 : Program.isSc Try.prog 44 = true := by kernel_rfl
theorem sc69 : Program.isSc Try.prog 69 = true := by kernel_rfl
theorem sz5 : (Try.prog.info? 5).map (·.size) = some 1 := by kernel_rfl
theorem sz69 : (Try.prog.info? 69).map (·.size) = some 1 := by kernel_rfl
theorem zc69 : Program.zeroC Try.prog 69 = some #[.slice none 0 0] := by kernel_rfl
theorem zc83 : Program.zeroC Try.prog 83 = some ((List.replicate 20 (0 : UInt8)).map v8).toArray := by kernel_rfl
end FxStunSg
open FxStunSg
theorem readsBlk {b T n : Nat} {l : List UInt8} (hn : l.length = n) (hm : n ≤ maxLen) : Reads (SA.blk b (l.map v8).toArray T) 1 (.slice (some ⟨b, 0, none⟩) n n) n (l.map v8) := fun w O R h => by
  subst hn
  refine ⟨by simp, one8, some ⟨b, 0, none⟩, l.length, rfl, Nat.le_refl _, hm, by simp, ?_⟩
  intro p hp j u hu
  cases hp
  rw [Addr.add_lit, h.2.cell]
  simpa using hu
theorem macO_fn (ka : Option Addr) (kn kc : Nat) (key : List UInt8) (hk : key.length = kn) (a : Option Addr) (n cap : Nat) (b : List UInt8) (hn : b.length = n) (h1 : kn ≤ 140737488351232) (h2 : n ≤ 140737488351232) (L : List SA) :
    Fn Try.prog 50 [.slice ka kn kc, .slice a n cap] (SA.rds 1 (.slice ka kn kc) kn (key.map v8) :: SA.owns 5 1 (.slice a n cap) n (b.map v8) :: L)
      (fun v L' => v = .agg ((sha.mac key b).map v8).toArray ∧ L' = SA.rds 1 (.slice ka kn kc) kn (key.map v8) :: SA.owns 5 1 (.slice a n cap) n (b.map v8) :: L) :=
  Fn.lend0 (Lend.cons Lend1.rds (Lend.cons Lend1.own Lend.nil)) (sha.mac_fn ka kn kc key hk a n cap b hn (by omega) (by omega) []) L
def tgA (e : At) : Bool := e.1 == 8 || e.1 == 32808
theorem tagged_any (l : List At) : tagged (l.map pl) = l.any tgA := by unfold tagged; rw [List.any_map]; rfl
theorem sign1_fn (t : UInt16) (s : Value) (L : List SA) : Fn Try.prog 49 [.agg #[v16 t, s]] L (fun v L' => v = .bool (t == 8 || t == 32808) ∧ L' = L) := by
  refine Fn.of (N := 11) Try.func49 rfl rfl ?_
  intro Xh
  refine TC.seq ?_
  refine TC.region ?_
  refine TL.eff rfl rfl rfl (X.boxA rfl rfl) ?_
  rintro _ _ ⟨b1, rfl, rfl⟩
  refine TL.val rfl rfl rfl (Y.assign rfl rfl) ?_
  refine TL.nil ?_
  refine TQ.next ?_
  refine TC.seq ?_
  refine TC.region ?_
  refine TL.val rfl rfl rfl (by first | exact Y.fieldAddrJ rfl fo73_0 rfl nqq | exact Y.fieldAddr rfl fo73_0 rfl nqq) ?_
  refine TL.val rfl rfl rfl (Y.load rfl sc44 rfl cel16) ?_
  refine TL.val rfl rfl rfl (Y.bin rfl rfl rfl (br_eq16 (y := 8))) ?_
  refine TL.val rfl rfl rfl (Y.move rfl rfl) ?_
  refine TL.case (fun g1_3 => ?_) (fun g1_3 => ?_)
  · try simp only [decide_eq_true_eq, decide_eq_false_iff_not, Bool.not_eq_true', Bool.not_eq_false', Nat.not_lt, Nat.not_le, beq_iff_eq, bne_iff_ne] at g1_3
    refine TL.not rfl rfl rfl ?_
    refine TL.not rfl rfl rfl ?_
    refine TL.not rfl rfl rfl ?_
    refine TL.val rfl rfl rfl (Y.pick_t rfl rfl rfl) ?_
    refine TL.val rfl rfl rfl (Y.assign rfl rfl) ?_
    refine TL.nil ?_
    refine TQ.next ?_
    refine TC.ret ?_
    refine TQ.retE (res1 rfl rfl) (⟨by simp_all, rfl⟩) ?_
    exact ett
  · try simp only [decide_eq_true_eq, decide_eq_false_iff_not, Bool.not_eq_true', Bool.not_eq_false', Nat.not_lt, Nat.not_le, beq_iff_eq, bne_iff_ne] at g1_3
    refine TL.valG rfl rfl rfl (by first | exact Y.fieldAddrJ rfl fo73_0 rfl nqq | exact Y.fieldAddr rfl fo73_0 rfl nqq) ?_
    refine TL.valG rfl rfl rfl (Y.load rfl sc44 rfl cel16) ?_
    refine TL.valG rfl rfl rfl (Y.bin rfl rfl rfl (br_eq16 (y := 32808))) ?_
    refine TL.val rfl rfl rfl (Y.pick_f rfl rfl rfl) ?_
    refine TL.val rfl rfl rfl (Y.assign rfl rfl) ?_
    refine TL.nil ?_
    refine TQ.next ?_
    refine TC.ret ?_
    refine TQ.retE (res1 rfl rfl) (⟨by simp_all, rfl⟩) ?_
    exact ett
theorem sign1_any (x : At) (L : List SA) : Fn Try.prog 49 ([] ++ [.agg (Dat.c x).toArray] ++ []) L (fun v L' => v = .bool (tgA x) ∧ L' = L) := sign1_fn x.1 _ L
def zero0 : Nat := 0
theorem sgn_none {m : SMsg} {key : List UInt8} (h : tagged m.attrs = true ∨ 14 < m.attrs.length) : m.sgn key = none := by unfold SMsg.sgn; rw [if_pos h]
theorem sgn_none2 {m : SMsg} {key : List UInt8} (h : oe m.build ≠ 0 ∨ 1468 < (ob m.build).length) : m.sgn key = none := by
  unfold SMsg.sgn
  split
  · rfl
  · cases hb : m.build with
    | none => rfl
    | some b =>
      rw [hb] at h
      rcases h with h | h
      · exact absurd rfl h
      · exact if_pos h
theorem sgn_some2 {m : SMsg} {key b : List UInt8} (h : ¬ (tagged m.attrs = true ∨ 14 < m.attrs.length)) (hb : m.build = some b) (hl : ¬ 1468 < b.length) : m.sgn key = some (fin key b) := by
  unfold SMsg.sgn; rw [if_neg h, hb]; exact if_neg hl
theorem lead_len (b : List UInt8) : (lead b).length = b.length := setLen_len _ _
set_option maxHeartbeats 1000000 in
--REG rostrum/stun.Sign : _ _ ⟨a{d}, c{d}, rfl, rfl⟩ => (stun.Sign_fn _ _ _ _ _ _ _ _ _ _ (by first | assumption | rfl) (by omega) _)
theorem Sign_fn (c m : Int) (f : Nat → UInt8) (a : Option Addr) (cap : Nat) (l : List At) (ka : Option Addr) (kn kc : Nat) (key : List UInt8) (hk : key.length = kn) (hkl : kn ≤ 140737488351232) (L : List SA) :
    Fn Try.prog 26 [.agg (msgC c m f (.slice a l.length cap)), .slice ka kn kc] (SA.dat (⟨a, cap, l⟩ : Sl At) :: SA.rds 1 (.slice ka kn kc) kn (key.map v8) :: L)
      (fun v L' => ∃ b c', v = .tuple #[.slice b (ob ((SM c m f ⟨a, cap, l⟩).sgn key)).length c', vN (oe ((SM c m f ⟨a, cap, l⟩).sgn key))] ∧
        L' = SA.owns 5 1 (.slice b (ob ((SM c m f ⟨a, cap, l⟩).sgn key)).length c') (ob ((SM c m f ⟨a, cap, l⟩).sgn key)).length ((ob ((SM c m f ⟨a, cap, l⟩).sgn key)).map v8) :: SA.dat (⟨a, cap, l⟩ : Sl At) :: SA.rds 1 (.slice ka kn kc) kn (key.map v8) :: L) := by
  refine Fn.of (N := 58) Try.func26 rfl rfl ?_
  intro Xh
  refine TC.know (dat_cap (a := a) (l := l) inn) ?_
  rintro ⟨hc1, hc2, -⟩
  have hat : (SM c m f ⟨a, cap, l⟩).attrs = l.map pl := rfl
  refine TC.seq ?_
  refine TC.region ?_
  refine TL.eff rfl rfl rfl (X.boxA rfl rfl) ?_
  rintro _ _ ⟨b2, rfl, rfl⟩
  refine TL.val rfl rfl rfl (Y.assign rfl rfl) ?_
  refine TL.val rfl rfl rfl (Y.assign rfl rfl) ?_
  refine TL.nil ?_
  refine TQ.next ?_
  refine TC.seq ?_
  refine TC.seq ?_
  refine TC.region ?_
  refine TL.val rfl rfl rfl (by first | exact Y.fieldAddrJ rfl fo34_3 rfl nqq | exact Y.fieldAddr rfl fo34_3 rfl nqq) ?_
  refine TL.val rfl rfl rfl (Y.load rfl sc32 rfl celD) ?_
  refine TL.eff rfl rfl rfl (X.call rfl Try.func48 (by kernel_rfl) rfl rfl (Fn.preE (by repeat first | (with_reducible apply Ent.refl) | (apply Ent.cons; case h => first | (with_reducible (repeat first | apply Pull.here | apply Pull.there); done) | (repeat first | apply Pull.here | apply Pull.there))) (ixat.ContainsFunc_fn (SA.dat (⟨a, cap, l⟩ : Sl At)) a l.length cap l Reads.datM rfl rfl 49 _ [] [] tgA _ Try.func49 (by kernel_rfl) rfl (fun x _ => sign1_any x _)))) ?_
  rintro _ _ ⟨rfl, rfl⟩
  refine TL.val rfl rfl rfl (Y.move rfl rfl) ?_
  refine TL.case (fun g1_3 => ?_) (fun g1_3 => ?_)
  · try simp only [decide_eq_true_eq, decide_eq_false_iff_not, Bool.not_eq_true', Bool.not_eq_false', Nat.not_lt, Nat.not_le, beq_iff_eq, bne_iff_ne] at g1_3
    refine TL.not rfl rfl rfl ?_
    refine TL.not rfl rfl rfl ?_
    refine TL.not rfl rfl rfl ?_
    refine TL.not rfl rfl rfl ?_
    refine TL.val rfl rfl rfl (Y.pick_t rfl rfl rfl) ?_
    refine TL.nil ?_
    refine TQ.next ?_
    refine TC.cond_t rfl ?_
    refine TC.seq ?_
    have hS : (SM c m f ⟨a, cap, l⟩).sgn key = none := sgn_none (by rw [hat, tagged_any, List.length_map]; first | exact .inl g1_3 | exact .inr c0)
    rw [hS]
    refine TC.to (Ent.nilOwn 5 1) ?_
    refine TC.region ?_
    refine TL.val rfl rfl rfl (Y.assign rfl rfl) ?_
    refine TL.val rfl rfl rfl (Y.assign rfl rfl) ?_
    refine TL.nil ?_
    refine TQ.next ?_
    refine TC.ret ?_
    refine TQ.then_ret ?_
    refine TQ.retE (res2 rfl rfl rfl) (⟨_, _, rfl, rfl⟩) ?_
    exact ett
  · try simp only [decide_eq_true_eq, decide_eq_false_iff_not, Bool.not_eq_true', Bool.not_eq_false', Nat.not_lt, Nat.not_le, beq_iff_eq, bne_iff_ne] at g1_3
    refine TL.valG rfl rfl rfl (by first | exact Y.fieldAddrJ rfl fo34_3 rfl nqq | exact Y.fieldAddr rfl fo34_3 rfl nqq) ?_
    refine TL.valG rfl rfl rfl (Y.load rfl sc32 rfl celD) ?_
    refine TL.valG rfl rfl rfl (Y.len rfl Try.underlying32 rfl) ?_
    refine TL.valG rfl rfl rfl (Y.bin rfl rfl rfl (br_gtN (n := 14))) ?_
    refine TL.val rfl rfl rfl (Y.pick_f rfl rfl rfl) ?_
    refine TL.nil ?_
    refine TQ.next ?_
    refine TC.cond rfl (fun c0 => ?_) (fun c0 => ?_)
    · try simp only [decide_eq_true_eq, decide_eq_false_iff_not, Bool.not_eq_true', Bool.not_eq_false', Bool.and_eq_true, Bool.or_eq_true, Nat.not_lt, Nat.not_le, beq_iff_eq, bne_iff_ne] at c0
      refine TC.seq ?_
      have hS : (SM c m f ⟨a, cap, l⟩).sgn key = none := sgn_none (by rw [hat, tagged_any, List.length_map]; first | exact .inl g1_3 | exact .inr c0)
      rw [hS]
      refine TC.to (Ent.nilOwn 5 1) ?_
      refine TC.region ?_
      refine TL.val rfl rfl rfl (Y.assign rfl rfl) ?_
      refine TL.val rfl rfl rfl (Y.assign rfl rfl) ?_
      refine TL.nil ?_
      refine TQ.next ?_
      refine TC.ret ?_
      refine TQ.then_ret ?_
      refine TQ.retE (res2 rfl rfl rfl) (⟨_, _, rfl, rfl⟩) ?_
      exact ett
    · try simp only [decide_eq_true_eq, decide_eq_false_iff_not, Bool.not_eq_true', Bool.not_eq_false', Bool.and_eq_true, Bool.or_eq_true, Nat.not_lt, Nat.not_le, beq_iff_eq, bne_iff_ne] at c0
      refine TC.skip ?_
      refine TQ.next ?_
      refine TC.seq ?_
      have hS1 : ¬ (tagged (SM c m f ⟨a, cap, l⟩).attrs = true ∨ 14 < (SM c m f ⟨a, cap, l⟩).attrs.length) := by
        rw [hat, tagged_any, List.length_map]
        rintro (h | h)
        · rw [g1_3] at h; cases h
        · omega
      refine TC.region ?_
      refine TL.val rfl rfl rfl (Y.loadAgg rfl ag34 rfl (by first | exact Cels.datAt inn (by assumption) | exact Cels.full inn) (by first | rfl | ((try simp only [List.length_map, List.length_set, List.length_replicate]); omega))) ?_
      refine TL.as (.agg (msgC c m f (.slice a l.length cap))) (by rfl) ?_
      refine TL.eff rfl rfl rfl (X.call rfl Try.func11 (by kernel_rfl) rfl rfl (Fn.preE (by repeat first | (with_reducible apply Ent.refl) | (apply Ent.cons; case h => first | (with_reducible (repeat first | apply Pull.here | apply Pull.there); done) | (repeat first | apply Pull.here | apply Pull.there))) (Build_fn c m f a cap l _))) ?_
      rintro _ _ ⟨a22, c22, rfl, rfl⟩
      refine TL.val rfl rfl rfl (Y.move rfl rfl) ?_
      refine TL.val rfl rfl rfl (Y.extract rfl rfl rfl) ?_
      refine TL.val rfl rfl rfl (Y.extract rfl rfl rfl) ?_
      refine TL.val rfl rfl rfl (Y.assign rfl rfl) ?_
      refine TL.val rfl rfl rfl (Y.assign rfl rfl) ?_
      refine TL.nil ?_
      refine TQ.next ?_
      refine TC.seq ?_
      refine TC.seq ?_
      refine TC.region ?_
      refine TL.val rfl rfl rfl (Y.move rfl rfl) ?_
      refine TL.val rfl rfl rfl (Y.bin rfl rfl rfl (br_neN (n := 0))) ?_
      refine TL.val rfl rfl rfl (Y.move rfl rfl) ?_
      refine TL.case (fun g4_2 => ?_) (fun g4_2 => ?_)
      · try simp only [decide_eq_true_eq, decide_eq_false_iff_not, Bool.not_eq_true', Bool.not_eq_false', Nat.not_lt, Nat.not_le, beq_iff_eq, bne_iff_ne] at g4_2
        refine TL.not rfl rfl rfl ?_
        refine TL.not rfl rfl rfl ?_
        refine TL.not rfl rfl rfl ?_
        refine TL.val rfl rfl rfl (Y.pick_t rfl rfl rfl) ?_
        refine TL.nil ?_
        refine TQ.next ?_
        refine TC.cond_t rfl ?_
        refine TC.seq ?_
        have hS : (SM c m f ⟨a, cap, l⟩).sgn key = none := sgn_none2 (by first | exact .inl g4_2 | exact .inr c1)
        rw [hS]
        refine TC.to (Ent.nilOwn 5 1) ?_
        refine TC.region ?_
        refine TL.val rfl rfl rfl (Y.assign rfl rfl) ?_
        refine TL.val rfl rfl rfl (Y.assign rfl rfl) ?_
        refine TL.nil ?_
        refine TQ.next ?_
        refine TC.ret ?_
        refine TQ.then_ret ?_
        refine TQ.retE (res2 rfl rfl rfl) (⟨_, _, rfl, rfl⟩) ?_
        exact ett
      · try simp only [decide_eq_true_eq, decide_eq_false_iff_not, Bool.not_eq_true', Bool.not_eq_false', Nat.not_lt, Nat.not_le, beq_iff_eq, bne_iff_ne] at g4_2
        refine TL.valG rfl rfl rfl (Y.move rfl rfl) ?_
        refine TL.valG rfl rfl rfl (Y.len rfl Try.underlying27 rfl) ?_
        refine TL.valG rfl rfl rfl (Y.bin rfl rfl rfl (br_gtN (n := 1468))) ?_
        refine TL.val rfl rfl rfl (Y.pick_f rfl rfl rfl) ?_
        refine TL.nil ?_
        refine TQ.next ?_
        refine TC.cond rfl (fun c1 => ?_) (fun c1 => ?_)
        · try simp only [decide_eq_true_eq, decide_eq_false_iff_not, Bool.not_eq_true', Bool.not_eq_false', Bool.and_eq_true, Bool.or_eq_true, Nat.not_lt, Nat.not_le, beq_iff_eq, bne_iff_ne] at c1
          refine TC.seq ?_
          have hS : (SM c m f ⟨a, cap, l⟩).sgn key = none := sgn_none2 (by first | exact .inl g4_2 | exact .inr c1)
          rw [hS]
          refine TC.to (Ent.nilOwn 5 1) ?_
          refine TC.region ?_
          refine TL.val rfl rfl rfl (Y.assign rfl rfl) ?_
          refine TL.val rfl rfl rfl (Y.assign rfl rfl) ?_
          refine TL.nil ?_
          refine TQ.next ?_
          refine TC.ret ?_
          refine TQ.then_ret ?_
          refine TQ.retE (res2 rfl rfl rfl) (⟨_, _, rfl, rfl⟩) ?_
          exact ett
        · try simp only [decide_eq_true_eq, decide_eq_false_iff_not, Bool.not_eq_true', Bool.not_eq_false', Bool.and_eq_true, Bool.or_eq_true, Nat.not_lt, Nat.not_le, beq_iff_eq, bne_iff_ne] at c1
          obtain ⟨b, hb⟩ : ∃ b, (SM c m f ⟨a, cap, l⟩).build = some b := ⟨_, ob_some g4_2⟩
          have hS := sgn_some2 (key := key) hS1 hb (by rw [hb] at c1; exact Nat.not_lt.2 c1)
          rw [hb] at c1
          rw [hS]
          rw [hb]
          rw [show ob (some b) = b from rfl, show ob (some (fin key b)) = fin key b from rfl] at *
          have hbl : 20 ≤ b.length := build_len (x := SM c m f ⟨a, cap, l⟩) rfl hb
          refine TC.know (owns_some (a := a22) inn (by omega)) ?_
          rintro ⟨wg, woff, rfl⟩
          refine TC.skip ?_
          refine TQ.next ?_
          refine TC.seq ?_
          refine TC.region ?_
          refine TL.val rfl rfl rfl (Y.move rfl rfl) ?_
          refine TL.eff rfl rfl rfl (X.alloc rfl zc69) ?_
          rintro _ _ ⟨b8, rfl, rfl⟩
          refine TL.eff0 rfl rfl (by first | exact X.store rfl sz69 rfl rfl rfl pul lnn (by first | exact setM | rfl) | exact X.storeOwn rfl sz69 rfl (Nat.zero_add _).symm rfl rfl pul lnn (by first | exact setML | rfl) | exact X.storeOwn rfl sz69 rfl rfl rfl rfl pul lnn (by first | exact setML | rfl)) ?_
          rintro _ _ rfl
          refine TL.nil ?_
          refine TQ.next ?_
          refine TC.seq ?_
          refine TC.region ?_
          refine TL.val rfl rfl rfl (Y.load rfl sc69 rfl celD) ?_
          refine TL.val rfl rfl rfl (Y.load rfl sc69 rfl celD) ?_
          refine TL.val rfl rfl rfl (Y.len rfl Try.underlying69 rfl) ?_
          refine TL.val rfl rfl rfl (Y.bin rfl rfl rfl (br_addN (n := 24) (by omega))) ?_
          refine TL.eff rfl rfl rfl (X.call rfl Try.func37 (by kernel_rfl) rfl rfl (Fn.preE (by repeat first | (with_reducible apply Ent.refl) | (apply Ent.cons; case h => first | (with_reducible (repeat first | apply Pull.here | apply Pull.there); done) | (repeat first | apply Pull.here | apply Pull.there))) (size_fn _ _ _ _ _ _ rfl (by omega) (by omega) (by omega) _))) ?_
          rintro _ _ ⟨rfl, rfl⟩
          refine TL.nil ?_
          rw [show setLen b (b.length + 24) = lead b from rfl]
          refine TQ.next ?_
          refine TC.seq ?_
          refine TC.region ?_
          refine TL.val rfl rfl rfl (Y.move rfl rfl) ?_
          refine TL.val rfl rfl rfl (Y.load rfl sc69 rfl celD) ?_
          refine TL.eff rfl rfl rfl (X.call rfl Try.func50 (by kernel_rfl) rfl rfl (Fn.preE (by repeat first | (with_reducible apply Ent.refl) | (apply Ent.cons; case h => first | (with_reducible (repeat first | apply Pull.here | apply Pull.there); done) | (repeat first | apply Pull.here | apply Pull.there))) (macO_fn _ _ _ _ hk _ _ _ (lead b) (lead_len b) hkl (by omega) _))) ?_
          rintro _ _ ⟨rfl, rfl⟩
          obtain ⟨t, ht⟩ : ∃ t, t = sha.mac key (lead b) := ⟨_, rfl⟩
          have htl : t.length = 20 := by rw [ht]; exact sha.mac_len _ _
          rw [← ht]
          refine TL.eff rfl rfl rfl (X.alloc rfl zc83) ?_
          rintro _ _ ⟨b9, rfl, rfl⟩
          refine TL.eff0 rfl rfl (X.storeAll rfl (by kernel_rfl) (by simpa using htl) rfl rfl (fun v hv => one8 v (by simpa using hv)) pul (by simp)) ?_
          rintro _ _ rfl
          refine TL.nil ?_
          refine TQ.next ?_
          refine TC.seq ?_
          refine TC.to (wr.put pul (by rfl) pul (l := lead b) (lead_len b) rfl Ent.refl) ?_
          have hll := lead_len b
          refine TC.region ?_
          refine TL.eff rfl rfl rfl (X.call rfl Try.func33 (by kernel_rfl) rfl rfl (Fn.preE (by repeat first | (with_reducible apply Ent.refl) | (apply Ent.cons; case h => first | (with_reducible (repeat first | apply Pull.here | apply Pull.there); done) | (repeat first | apply Pull.here | apply Pull.there))) (wr.U16_fn _ 8 _ (by first | omega | (simp only [List.length_append, List.length_nil, List.length_cons, wr.be16_len, wr.be32_len]; omega) | (simp only [List.length_append, List.length_nil, List.length_cons, wr.be16_len, wr.be32_len, r1.be2_len, r1.be4_len]; omega) | (simp; omega)) _))) ?_
          rintro _ _ ⟨rfl, rfl⟩
          refine TL.nil ?_
          refine TQ.next ?_
          refine TC.seq ?_
          refine TC.region ?_
          refine TL.eff rfl rfl rfl (X.call rfl Try.func33 (by kernel_rfl) rfl rfl (Fn.preE (by repeat first | (with_reducible apply Ent.refl) | (apply Ent.cons; case h => first | (with_reducible (repeat first | apply Pull.here | apply Pull.there); done) | (repeat first | apply Pull.here | apply Pull.there))) (wr.U16_fn _ 20 _ (by first | omega | (simp only [List.length_append, List.length_nil, List.length_cons, wr.be16_len, wr.be32_len]; omega) | (simp only [List.length_append, List.length_nil, List.length_cons, wr.be16_len, wr.be32_len, r1.be2_len, r1.be4_len]; omega) | (simp; omega)) _))) ?_
          rintro _ _ ⟨rfl, rfl⟩
          refine TL.nil ?_
          refine TQ.next ?_
          refine TC.seq ?_
          refine TC.region ?_
          refine TL.val rfl rfl rfl (Y.sliceArr rfl Try.underlying83 sz5 rfl) ?_
          refine TL.eff rfl rfl rfl (X.call rfl Try.func35 (by kernel_rfl) rfl rfl (Fn.preE (by repeat first | (with_reducible apply Ent.refl) | (apply Ent.cons; case h => first | (with_reducible (repeat first | apply Pull.here | apply Pull.there); done) | (repeat first | apply Pull.here | apply Pull.there))) (wr.Bytes_fn (SA.blk b9 (t.map v8).toArray 83) b8 20 (some ⟨b9, 0, none⟩) 20 _ t (readsBlk htl (by decide)) htl (by simp only [List.length_append, wr.be16_len]; omega) _))) ?_
          rintro _ _ ⟨rfl, rfl⟩
          refine TL.nil ?_
          refine TQ.next ?_
          refine TC.seq ?_
          obtain ⟨d, hd⟩ : ∃ d, d = lead b ++ be16 8 ++ be16 20 ++ t := ⟨_, rfl⟩
          have hdl : d.length = b.length + 24 := by rw [hd]; simp only [List.length_append, wr.be16_len, hll, htl]
          have hmid : setLen d (d.length + 8) = midB key b := by rw [midB, hdl, hd, ht]; rfl
          rw [← hd]
          refine TC.open pul ?_
          rintro ⟨wa, wc⟩
          refine TC.split pul ?_
          refine TC.know (owns_some (a := wa) inn (by omega)) ?_
          rintro ⟨wg2, woff2, rfl⟩
          refine TC.region ?_
          refine TL.val rfl rfl rfl (Y.load rfl sc69 rfl celD) ?_
          refine TL.val rfl rfl rfl (Y.load rfl sc69 rfl celD) ?_
          refine TL.val rfl rfl rfl (Y.len rfl Try.underlying69 rfl) ?_
          refine TL.val rfl rfl rfl (Y.bin rfl rfl rfl (br_addN (n := 8) (by omega))) ?_
          refine TL.eff rfl rfl rfl (X.call rfl Try.func37 (by kernel_rfl) rfl rfl (Fn.preE (by repeat first | (with_reducible apply Ent.refl) | (apply Ent.cons; case h => first | (with_reducible (repeat first | apply Pull.here | apply Pull.there); done) | (repeat first | apply Pull.here | apply Pull.there))) (size_fn _ _ _ _ _ _ rfl (by omega) (by omega) (by omega) _))) ?_
          rintro _ _ ⟨rfl, rfl⟩
          refine TL.nil ?_
          rw [hmid]
          refine TQ.next ?_
          refine TC.seq ?_
          have hml : (midB key b).length = d.length := by rw [← hmid]; exact setLen_len _ _
          refine TC.region ?_
          refine TL.val rfl rfl rfl (Y.load rfl sc69 rfl celD) ?_
          refine TL.eff rfl rfl rfl (X.call rfl Try.func51 (by kernel_rfl) rfl rfl (Fn.preE (by repeat first | (with_reducible apply Ent.refl) | (apply Ent.cons; case h => first | (with_reducible (repeat first | apply Pull.here | apply Pull.there); done) | (repeat first | apply Pull.here | apply Pull.there))) (sha.crc_fn (SA.owns 5 1 (.slice (some ⟨wg2, woff2, none⟩) d.length wc) d.length ((midB key b).map v8)) _ _ _ (midB key b) Reads.owns hml _))) ?_
          rintro _ _ ⟨rfl, rfl⟩
          refine TL.val rfl rfl rfl (Y.bin rfl rfl rfl (br_xor32 (y := 1398035790))) ?_
          refine TL.as (v32 (crcX (midB key b))) (by rfl) ?_
          refine TL.val rfl rfl rfl (Y.assign rfl rfl) ?_
          refine TL.nil ?_
          refine TQ.next ?_
          refine TC.seq ?_
          refine TC.to (wr.put pul (by rfl) pul (l := midB key b) hml rfl Ent.refl) ?_
          refine TC.region ?_
          refine TL.eff rfl rfl rfl (X.call rfl Try.func33 (by kernel_rfl) rfl rfl (Fn.preE (by repeat first | (with_reducible apply Ent.refl) | (apply Ent.cons; case h => first | (with_reducible (repeat first | apply Pull.here | apply Pull.there); done) | (repeat first | apply Pull.here | apply Pull.there))) (wr.U16_fn _ 32808 _ (by first | omega | (simp only [List.length_append, List.length_nil, List.length_cons, wr.be16_len, wr.be32_len]; omega) | (simp only [List.length_append, List.length_nil, List.length_cons, wr.be16_len, wr.be32_len, r1.be2_len, r1.be4_len]; omega) | (simp; omega)) _))) ?_
          rintro _ _ ⟨rfl, rfl⟩
          refine TL.nil ?_
          refine TQ.next ?_
          refine TC.seq ?_
          refine TC.region ?_
          refine TL.eff rfl rfl rfl (X.call rfl Try.func33 (by kernel_rfl) rfl rfl (Fn.preE (by repeat first | (with_reducible apply Ent.refl) | (apply Ent.cons; case h => first | (with_reducible (repeat first | apply Pull.here | apply Pull.there); done) | (repeat first | apply Pull.here | apply Pull.there))) (wr.U16_fn _ 4 _ (by first | omega | (simp only [List.length_append, List.length_nil, List.length_cons, wr.be16_len, wr.be32_len]; omega) | (simp only [List.length_append, List.length_nil, List.length_cons, wr.be16_len, wr.be32_len, r1.be2_len, r1.be4_len]; omega) | (simp; omega)) _))) ?_
          rintro _ _ ⟨rfl, rfl⟩
          refine TL.nil ?_
          refine TQ.next ?_
          refine TC.seq ?_
          refine TC.region ?_
          refine TL.val rfl rfl rfl (Y.move rfl rfl) ?_
          refine TL.eff rfl rfl rfl (X.call rfl Try.func34 (by kernel_rfl) rfl rfl (Fn.preE (by repeat first | (with_reducible apply Ent.refl) | (apply Ent.cons; case h => first | (with_reducible (repeat first | apply Pull.here | apply Pull.there); done) | (repeat first | apply Pull.here | apply Pull.there))) (wr.U32_fn _ _ _ (by first | omega | (simp only [List.length_append, List.length_nil, List.length_cons, wr.be16_len, wr.be32_len]; omega) | (simp only [List.length_append, List.length_nil, List.length_cons, wr.be16_len, wr.be32_len, r1.be2_len, r1.be4_len]; omega) | (simp; omega)) _))) ?_
          rintro _ _ ⟨rfl, rfl⟩
          refine TL.nil ?_
          refine TQ.next ?_
          refine TC.seq ?_
          rw [show midB key b ++ be16 32808 ++ be16 4 ++ be32 (crcX (midB key b)) = fin key b from rfl]
          refine TC.open pul ?_
          rintro ⟨wa3, wc3⟩
          refine TC.split pul ?_
          refine TC.region ?_
          refine TL.val rfl rfl rfl (Y.load rfl sc69 rfl celD) ?_
          refine TL.val rfl rfl rfl (Y.assign rfl rfl) ?_
          refine TL.val rfl rfl rfl (Y.assign rfl rfl) ?_
          refine TL.nil ?_
          refine TQ.next ?_
          refine TC.ret ?_
          refine TQ.retE (res2 rfl rfl rfl) (⟨_, _, rfl, rfl⟩) ?_
          exact ett
end stun
end Go.Proofs.Ytggammbhmoippaa
