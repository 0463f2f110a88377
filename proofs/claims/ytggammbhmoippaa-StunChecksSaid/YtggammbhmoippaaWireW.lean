/- The writer: its contracts. -/
import Derived.Test.YtggammbhmoippaaChecked
import Derived.Test.YtggammbhmoippaaHDat
import Derived.Test.YtggammbhmoippaaHAuto
namespace Go.Proofs.Ytggammbhmoippaa
set_option linter.unusedVariables false
set_option linter.unusedSimpArgs false
open Go.RowKit
namespace wr
namespace FxWireW
set_option maxRecDepth 100000
theorem el69 : Elt Try.prog 69 5 1 1 (.int .u8 0) := ⟨Try.underlying69, by kernel_rfl, rfl, by decide, by simp [Value.cells, Value.oneCell']⟩
theorem sc69 : Program.isSc Try.prog 69 = true := by kernel_rfl
theorem sz69 : (Try.prog.info? 69).map (·.size) = some 1 := by kernel_rfl
end FxWireW
open FxWireW
/-- a writer's variable with bytes of its own -/
def W (b : Nat) (l : List UInt8) : SA := SA.ex fun x : Option Addr × Nat => SA.star (SA.blk b #[.slice x.1 l.length x.2] 69) (SA.owns 5 1 (.slice x.1 l.length x.2) l.length (l.map v8))
theorem mk {b n cap : Nat} {a : Option Addr} {l : List UInt8} {cs : List Value} {L : List SA} (hn : l.length = n) (hc : l.map v8 = cs) : Ent (SA.blk b #[.slice a n cap] 69 :: SA.owns 5 1 (.slice a n cap) n cs :: L) (W b l :: L) := by
  subst hn; subst hc
  exact Ent.unstarE.trans (Ent.exE (f := fun x : Option Addr × Nat => SA.star (SA.blk b #[.slice x.1 l.length x.2] 69) (SA.owns 5 1 (.slice x.1 l.length x.2) l.length (l.map v8))) (a, cap))
theorem put {b n cap : Nat} {a : Option Addr} {l : List UInt8} {cs : List Value} {cb : Array Value} {L L1 L2 L3 : List SA} (h1 : Pull (SA.blk b cb 69) L L1) (hb : cb = #[.slice a n cap]) (h2 : Pull (SA.owns 5 1 (.slice a n cap) n cs) L1 L2) (hn : l.length = n) (hc : l.map v8 = cs) (hE : Ent L2 L3) : Ent L (W b l :: L3) := by
  subst hb
  exact h1.ent.trans ((h2.ent.under _).trans ((mk hn hc).trans (hE.under _)))
theorem mk0 {b : Nat} {L : List SA} : Ent (SA.blk b #[.slice none 0 0] 69 :: L) (W b [] :: L) := (Ent.under _ (Ent.nilOwn _ _)).trans (mk rfl rfl)
--REG (*rostrum/wire.Writer).U8 : _ _ ⟨rfl, rfl⟩ => (wr.U8_fn _ {1} _ WL! _)
theorem U8_fn (b : Nat) (x : UInt8) (l : List UInt8) (hl : l.length ≤ 1099511627776) (L : List SA) : Fn Try.prog 54 [pt b 0, v8 x] (W b l :: L) (fun v L' => v = .tuple #[] ∧ L' = W b (l ++ [x]) :: L) := by
  refine Fn.of (N := 12) Try.func54 rfl rfl ?_
  intro Xh
  refine TC.open pul ?_
  rintro ⟨a, cap⟩
  refine TC.split pul ?_
  refine TC.region ?_
  refine TL.val rfl rfl rfl (Y.move rfl rfl) ?_
  refine TL.val rfl rfl rfl (Y.move rfl rfl) ?_
  refine TL.val rfl rfl rfl (Y.nilCheck rfl rfl) ?_
  refine TL.val rfl rfl rfl (Y.load rfl sc69 rfl ceoD) ?_
  refine TL.val rfl rfl rfl (Y.move rfl rfl) ?_
  refine TL.eff rfl rfl rfl (X.lit rfl el69 rfl rfl rfl (by decide) rfl) ?_
  rintro _ _ ⟨g9, rfl, rfl⟩
  refine TL.eff rfl rfl rfl (X.appendS rfl el69 rfl pul rfl (by first | exact Src.owns Try.underlying69 inn | exact Src.rds Try.underlying69 inn | exact Src.reads (by assumption) Try.underlying69 inn) (by simp only [maxLen]; omega) (by omega)) ?_
  rintro _ _ ⟨a10, c10, rfl, rfl⟩
  refine TL.val rfl rfl rfl (Y.nilCheck rfl rfl) ?_
  refine TL.eff0 rfl rfl (by first | exact X.store rfl sz69 rfl rfl rfl pul lnn (by first | exact setM | rfl) | exact X.storeOwn rfl sz69 rfl (Nat.zero_add _).symm rfl rfl pul lnn (by first | exact setML | rfl) | exact X.storeOwn rfl sz69 rfl rfl rfl rfl pul lnn (by first | exact setML | rfl)) ?_
  rintro _ _ rfl
  refine TL.nil ?_
  refine TQ.endE (res0 rfl) (⟨rfl, rfl⟩) ?_
  exact (put pul (by rfl) pul (by simp) (by simp) ett)
def be16 (x : UInt16) : List UInt8 := [(shr16 x 8).toUInt8, x.toUInt8]
def be32 (x : UInt32) : List UInt8 := [(shr32 x 24).toUInt8, (shr32 x 16).toUInt8, (shr32 x 8).toUInt8, x.toUInt8]
theorem be16_len (x : UInt16) : (be16 x).length = 2 := rfl
theorem be32_len (x : UInt32) : (be32 x).length = 4 := rfl
--REG (*rostrum/wire.Writer).U16 : _ _ ⟨rfl, rfl⟩ => (wr.U16_fn _ {1} _ WL! _)
theorem U16_fn (b : Nat) (x : UInt16) (l : List UInt8) (hl : l.length ≤ 1099511627776) (L : List SA) : Fn Try.prog 33 [pt b 0, v16 x] (W b l :: L) (fun v L' => v = .tuple #[] ∧ L' = W b (l ++ be16 x) :: L) := by
  refine Fn.of (N := 16) Try.func33 rfl rfl ?_
  intro Xh
  refine TC.open pul ?_
  rintro ⟨a, cap⟩
  refine TC.split pul ?_
  refine TC.region ?_
  refine TL.val rfl rfl rfl (Y.move rfl rfl) ?_
  refine TL.val rfl rfl rfl (Y.move rfl rfl) ?_
  refine TL.val rfl rfl rfl (Y.nilCheck rfl rfl) ?_
  refine TL.val rfl rfl rfl (Y.load rfl sc69 rfl ceoD) ?_
  refine TL.val rfl rfl rfl (Y.move rfl rfl) ?_
  refine TL.val rfl rfl rfl (Y.bin rfl rfl rfl (br_shr16 (n := 8))) ?_
  refine TL.val rfl rfl rfl (Y.conv rfl Try.underlying44 Try.underlying5 rfl (cv_16_8)) ?_
  refine TL.val rfl rfl rfl (Y.move rfl rfl) ?_
  refine TL.val rfl rfl rfl (Y.conv rfl Try.underlying44 Try.underlying5 rfl (cv_16_8)) ?_
  refine TL.eff rfl rfl rfl (X.lit rfl el69 rfl rfl rfl (by decide) rfl) ?_
  rintro _ _ ⟨g13, rfl, rfl⟩
  refine TL.eff rfl rfl rfl (X.appendS rfl el69 rfl pul rfl (by first | exact Src.owns Try.underlying69 inn | exact Src.rds Try.underlying69 inn | exact Src.reads (by assumption) Try.underlying69 inn) (by simp only [maxLen]; omega) (by omega)) ?_
  rintro _ _ ⟨a14, c14, rfl, rfl⟩
  refine TL.val rfl rfl rfl (Y.nilCheck rfl rfl) ?_
  refine TL.eff0 rfl rfl (by first | exact X.store rfl sz69 rfl rfl rfl pul lnn (by first | exact setM | rfl) | exact X.storeOwn rfl sz69 rfl (Nat.zero_add _).symm rfl rfl pul lnn (by first | exact setML | rfl) | exact X.storeOwn rfl sz69 rfl rfl rfl rfl pul lnn (by first | exact setML | rfl)) ?_
  rintro _ _ rfl
  refine TL.nil ?_
  refine TQ.endE (res0 rfl) (⟨rfl, rfl⟩) ?_
  exact (put pul (by rfl) pul (by simp [be16]) (by simp [be16]) ett)
--REG (*rostrum/wire.Writer).U32 : _ _ ⟨rfl, rfl⟩ => (wr.U32_fn _ {1} _ WL! _)
theorem U32_fn (b : Nat) (x : UInt32) (l : List UInt8) (hl : l.length ≤ 1099511627776) (L : List SA) : Fn Try.prog 34 [pt b 0, v32 x] (W b l :: L) (fun v L' => v = .tuple #[] ∧ L' = W b (l ++ be32 x) :: L) := by
  refine Fn.of (N := 22) Try.func34 rfl rfl ?_
  intro Xh
  refine TC.open pul ?_
  rintro ⟨a, cap⟩
  refine TC.split pul ?_
  refine TC.region ?_
  refine TL.val rfl rfl rfl (Y.move rfl rfl) ?_
  refine TL.val rfl rfl rfl (Y.move rfl rfl) ?_
  refine TL.val rfl rfl rfl (Y.nilCheck rfl rfl) ?_
  refine TL.val rfl rfl rfl (Y.load rfl sc69 rfl ceoD) ?_
  refine TL.val rfl rfl rfl (Y.move rfl rfl) ?_
  refine TL.val rfl rfl rfl (Y.bin rfl rfl rfl (br_shr32 (n := 24))) ?_
  refine TL.val rfl rfl rfl (Y.conv rfl Try.underlying45 Try.underlying5 rfl (cv_32_8)) ?_
  refine TL.val rfl rfl rfl (Y.move rfl rfl) ?_
  refine TL.val rfl rfl rfl (Y.bin rfl rfl rfl (br_shr32 (n := 16))) ?_
  refine TL.val rfl rfl rfl (Y.conv rfl Try.underlying45 Try.underlying5 rfl (cv_32_8)) ?_
  refine TL.val rfl rfl rfl (Y.move rfl rfl) ?_
  refine TL.val rfl rfl rfl (Y.bin rfl rfl rfl (br_shr32 (n := 8))) ?_
  refine TL.val rfl rfl rfl (Y.conv rfl Try.underlying45 Try.underlying5 rfl (cv_32_8)) ?_
  refine TL.val rfl rfl rfl (Y.move rfl rfl) ?_
  refine TL.val rfl rfl rfl (Y.conv rfl Try.underlying45 Try.underlying5 rfl (cv_32_8)) ?_
  refine TL.eff rfl rfl rfl (X.lit rfl el69 rfl rfl rfl (by decide) rfl) ?_
  rintro _ _ ⟨g19, rfl, rfl⟩
  refine TL.eff rfl rfl rfl (X.appendS rfl el69 rfl pul rfl (by first | exact Src.owns Try.underlying69 inn | exact Src.rds Try.underlying69 inn | exact Src.reads (by assumption) Try.underlying69 inn) (by simp only [maxLen]; omega) (by omega)) ?_
  rintro _ _ ⟨a20, c20, rfl, rfl⟩
  refine TL.val rfl rfl rfl (Y.nilCheck rfl rfl) ?_
  refine TL.eff0 rfl rfl (by first | exact X.store rfl sz69 rfl rfl rfl pul lnn (by first | exact setM | rfl) | exact X.storeOwn rfl sz69 rfl (Nat.zero_add _).symm rfl rfl pul lnn (by first | exact setML | rfl) | exact X.storeOwn rfl sz69 rfl rfl rfl rfl pul lnn (by first | exact setML | rfl)) ?_
  rintro _ _ rfl
  refine TL.nil ?_
  refine TQ.endE (res0 rfl) (⟨rfl, rfl⟩) ?_
  exact (put pul (by rfl) pul (by simp [be32]) (by simp [be32]) ett)
--REG (*rostrum/wire.Writer).Bytes : _ _ ⟨rfl, rfl⟩ => (wr.BytesR_fn _ _ _ _ _ _ (by first | assumption | rfl | omega) WL! _)
theorem Bytes_fn (A : SA) (b n : Nat) (s : Option Addr) (cap : Nat) (l m : List UInt8) (hA : Reads A 1 (.slice s n cap) n (m.map v8)) (hn : m.length = n) (hl : l.length + n ≤ 1099511627776) (L : List SA) :
    Fn Try.prog 35 [pt b 0, .slice s n cap] (W b l :: A :: L) (fun v L' => v = .tuple #[] ∧ L' = W b (l ++ m) :: A :: L) := by
  subst hn
  refine Fn.of (N := 11) Try.func35 rfl rfl ?_
  intro Xh
  refine TC.open pul ?_
  rintro ⟨a, c⟩
  refine TC.split pul ?_
  refine TC.region ?_
  refine TL.val rfl rfl rfl (Y.move rfl rfl) ?_
  refine TL.val rfl rfl rfl (Y.move rfl rfl) ?_
  refine TL.val rfl rfl rfl (Y.nilCheck rfl rfl) ?_
  refine TL.val rfl rfl rfl (Y.load rfl sc69 rfl ceoD) ?_
  refine TL.val rfl rfl rfl (Y.move rfl rfl) ?_
  refine TL.eff rfl rfl rfl (X.appendS rfl el69 rfl pul rfl (Src.reads hA Try.underlying27 inn) (by simp only [maxLen]; omega) (by omega)) ?_
  rintro _ _ ⟨a9, c9, rfl, rfl⟩
  refine TL.val rfl rfl rfl (Y.nilCheck rfl rfl) ?_
  refine TL.eff0 rfl rfl (by first | exact X.store rfl sz69 rfl rfl rfl pul lnn (by first | exact setM | rfl) | exact X.storeOwn rfl sz69 rfl (Nat.zero_add _).symm rfl rfl pul lnn (by first | exact setML | rfl) | exact X.storeOwn rfl sz69 rfl rfl rfl rfl pul lnn (by first | exact setML | rfl)) ?_
  rintro _ _ rfl
  refine TL.nil ?_
  refine TQ.endE (res0 rfl) (⟨rfl, rfl⟩) ?_
  exact (put pul (by rfl) pul (by simp) (by simp) ett)
theorem BytesR_fn (b n : Nat) (s : Option Addr) (cap : Nat) (l m : List UInt8) (hn : m.length = n) (hl : l.length + n ≤ 1099511627776) (L : List SA) :
    Fn Try.prog 35 [pt b 0, .slice s n cap] (W b l :: SA.rds 1 (.slice s n cap) n (m.map v8) :: L) (fun v L' => v = .tuple #[] ∧ L' = W b (l ++ m) :: SA.rds 1 (.slice s n cap) n (m.map v8) :: L) := Bytes_fn _ b n s cap l m Reads.rds hn hl L
def pad4 (l : List UInt8) : List UInt8 := l ++ List.replicate ((4 - l.length % 4) % 4) 0
theorem pad4_length (l : List UInt8) : (pad4 l).length = l.length + (4 - l.length % 4) % 4 := by simp [pad4]
theorem pad4_mod (l : List UInt8) : (pad4 l).length % 4 = 0 := by rw [pad4_length]; omega
theorem pad4_head (h l : List UInt8) (hh : h.length % 4 = 0) : pad4 (h ++ l) = h ++ pad4 l := by
  have : (4 - (h ++ l).length % 4) % 4 = (4 - l.length % 4) % 4 := by simp; omega
  simp only [pad4, this, List.append_assoc]
theorem pad4_step (l : List UInt8) (h : l.length % 4 ≠ 0) : pad4 (l ++ [0]) = pad4 l := by
  have e : (4 - l.length % 4) % 4 = (4 - (l ++ [0]).length % 4) % 4 + 1 := by simp; omega
  simp only [pad4, e, List.replicate_succ]
  simp
theorem pad4_done (l : List UInt8) (h : l.length % 4 = 0) : pad4 l = l := by simp [pad4, h]
--REG (*rostrum/wire.Writer).Even : _ _ ⟨rfl, rfl⟩ => (wr.Even_fn _ _ WL! _)
theorem Even_fn (b : Nat) (l : List UInt8) (hl : l.length ≤ 1099511627770) (L : List SA) : Fn Try.prog 36 [pt b 0] (W b l :: L) (fun v L' => v = .tuple #[] ∧ L' = W b (pad4 l) :: L) := by
  refine Fn.of (N := 10) Try.func36 rfl rfl ?_
  intro Xh
  refine TC.block ?_
  refine TC.loopF (ι := List UInt8) [] (fun m => pad4 m = pad4 l) (fun m => []) (fun m => [W b m]) (fun m => (pad4 l).length - m.length) (l) (rfl) trivial (Pulls.cons pul Pulls.nil) ?_
  rintro m hm F' L' rfl hL'
  simp only [List.cons_append, List.nil_append] at hL'
  subst hL'
  have hpl := pad4_length m
  have hpl2 := pad4_length l
  rw [hm] at hpl
  refine TC.seq ?_
  refine TC.seq ?_
  refine TC.open pul ?_
  rintro ⟨a, cap⟩
  refine TC.split pul ?_
  refine TC.region ?_
  refine TL.val rfl rfl rfl (Y.move rfl rfl) ?_
  refine TL.val rfl rfl rfl (Y.nilCheck rfl rfl) ?_
  refine TL.val rfl rfl rfl (Y.load rfl sc69 rfl ceoD) ?_
  refine TL.val rfl rfl rfl (Y.len rfl Try.underlying69 rfl) ?_
  refine TL.val rfl rfl rfl (Y.bin rfl rfl rfl (br_remN (n := 4) (by omega))) ?_
  refine TL.val rfl rfl rfl (Y.bin rfl rfl rfl (br_neN (n := 0))) ?_
  refine TL.nil ?_
  refine TQ.next ?_
  refine TC.cond rfl (fun c0 => ?_) (fun c0 => ?_)
  · try simp only [decide_eq_true_eq, decide_eq_false_iff_not, Bool.not_eq_true', Bool.not_eq_false', Bool.and_eq_true, Bool.or_eq_true, Nat.not_lt, Nat.not_le, beq_iff_eq, bne_iff_ne] at c0
    refine TC.to (put pul (by rfl) pul (by rfl) (by rfl) Ent.refl (l := m)) ?_
    refine TC.skip ?_
    refine TQ.next ?_
    refine TC.block ?_
    refine TC.region ?_
    refine TL.val rfl rfl rfl (Y.move rfl rfl) ?_
    refine TL.eff rfl rfl rfl (X.call rfl Try.func54 (by kernel_rfl) rfl rfl (Fn.preE (by repeat first | (with_reducible apply Ent.refl) | (apply Ent.cons; case h => first | (with_reducible (repeat first | apply Pull.here | apply Pull.there); done) | (repeat first | apply Pull.here | apply Pull.there))) (wr.U8_fn _ 0 _ (by first | omega | (simp only [List.length_append, List.length_nil, List.length_cons, wr.be16_len, wr.be32_len]; omega) | (simp only [List.length_append, List.length_nil, List.length_cons, wr.be16_len, wr.be32_len, r1.be2_len, r1.be4_len]; omega) | (simp; omega)) _))) ?_
    rintro _ _ ⟨rfl, rfl⟩
    refine TL.nil ?_
    refine TQ.block_normal ?_
    refine TQ.loopF (m ++ [0]) ((pad4_step m c0).trans hm) (by simp only [List.length_append, List.length_cons, List.length_nil]; omega) trivial (by (repeat first | apply Grow.refl | apply Grow.step | apply Grow.app)) ?_ ?_ ?_
    · kernel_rfl
    · rfl
    · simp only [List.cons_append, List.nil_append]
      exact ett
  · try simp only [decide_eq_true_eq, decide_eq_false_iff_not, Bool.not_eq_true', Bool.not_eq_false', Bool.and_eq_true, Bool.or_eq_true, Nat.not_lt, Nat.not_le, beq_iff_eq, bne_iff_ne] at c0
    refine TC.to (put pul (by rfl) pul (by rfl) (by rfl) Ent.refl (l := m)) ?_
    refine TC.exit ?_
    refine TQ.then_exit ?_
    refine TQ.then_exit ?_
    refine TQ.block_exit ?_
    refine TQ.endE (res0 rfl) (⟨rfl, by rw [← hm, pad4_done m (by omega)]⟩) ?_
    exact ett
end wr
end Go.Proofs.Ytggammbhmoippaa
