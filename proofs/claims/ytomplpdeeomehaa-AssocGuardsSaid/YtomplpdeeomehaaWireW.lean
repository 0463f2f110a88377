/- The writer: its contracts. -/
import Derived.Test.YtomplpdeeomehaaChecked
import Derived.Test.YtomplpdeeomehaaHDat
import Derived.Test.YtomplpdeeomehaaHAuto
namespace Go.Proofs.Ytomplpdeeomehaa
set_option linter.unusedVariables false
set_option linter.unusedSimpArgs false
open Go.RowKit
namespace wr
namespace FxWireW
set_option maxRecDepth 100000
theorem el85 : Elt Try.prog 85 5 1 1 (.int .u8 0) := ⟨Try.underlying85, by kernel_rfl, rfl, by decide, by simp [Value.cells, Value.oneCell']⟩
theorem sc85 : Program.isSc Try.prog 85 = true := by kernel_rfl
theorem sz85 : (Try.prog.info? 85).map (·.size) = some 1 := by kernel_rfl
end FxWireW
open FxWireW
/-- a writer's variable with bytes of its own -/
def W (b : Nat) (l : List UInt8) : SA := SA.ex fun x : Option Addr × Nat => SA.star (SA.blk b #[.slice x.1 l.length x.2] 85) (SA.owns 5 1 (.slice x.1 l.length x.2) l.length (l.map v8))
theorem mk {b n cap : Nat} {a : Option Addr} {l : List UInt8} {cs : List Value} {L : List SA} (hn : l.length = n) (hc : l.map v8 = cs) : Ent (SA.blk b #[.slice a n cap] 85 :: SA.owns 5 1 (.slice a n cap) n cs :: L) (W b l :: L) := by
  subst hn; subst hc
  exact Ent.unstarE.trans (Ent.exE (f := fun x : Option Addr × Nat => SA.star (SA.blk b #[.slice x.1 l.length x.2] 85) (SA.owns 5 1 (.slice x.1 l.length x.2) l.length (l.map v8))) (a, cap))
theorem put {b n cap : Nat} {a : Option Addr} {l : List UInt8} {cs : List Value} {cb : Array Value} {L L1 L2 L3 : List SA} (h1 : Pull (SA.blk b cb 85) L L1) (hb : cb = #[.slice a n cap]) (h2 : Pull (SA.owns 5 1 (.slice a n cap) n cs) L1 L2) (hn : l.length = n) (hc : l.map v8 = cs) (hE : Ent L2 L3) : Ent L (W b l :: L3) := by
  subst hb
  exact h1.ent.trans ((h2.ent.under _).trans ((mk hn hc).trans (hE.under _)))
theorem mk0 {b : Nat} {L : List SA} : Ent (SA.blk b #[.slice none 0 0] 85 :: L) (W b [] :: L) := (Ent.under _ (Ent.nilOwn _ _)).trans (mk rfl rfl)
def be16 (x : UInt16) : List UInt8 := [(shr16 x 8).toUInt8, x.toUInt8]
def be32 (x : UInt32) : List UInt8 := [(shr32 x 24).toUInt8, (shr32 x 16).toUInt8, (shr32 x 8).toUInt8, x.toUInt8]
theorem be16_len (x : UInt16) : (be16 x).length = 2 := rfl
theorem be32_len (x : UInt32) : (be32 x).length = 4 := rfl
--REG (*rostrum/wire.Writer).U16 : _ _ ⟨rfl, rfl⟩ => (wr.U16_fn _ {1} _ WL! _)
theorem U16_fn (b : Nat) (x : UInt16) (l : List UInt8) (hl : l.length ≤ 1099511627776) (L : List SA) : Fn Try.prog 53 [pt b 0, v16 x] (W b l :: L) (fun v L' => v = .tuple #[] ∧ L' = W b (l ++ be16 x) :: L) := by
  refine Fn.of (N := 16) Try.func53 rfl rfl ?_
  intro Xh
  refine TC.open pul ?_
  rintro ⟨a, cap⟩
  refine TC.split pul ?_
  refine TC.region ?_
  refine TL.val rfl rfl rfl (Y.move rfl rfl) ?_
  refine TL.val rfl rfl rfl (Y.move rfl rfl) ?_
  refine TL.val rfl rfl rfl (Y.nilCheck rfl rfl) ?_
  refine TL.val rfl rfl rfl (Y.load rfl sc85 rfl ceoD) ?_
  refine TL.val rfl rfl rfl (Y.move rfl rfl) ?_
  refine TL.val rfl rfl rfl (Y.bin rfl rfl rfl (br_shr16 (n := 8))) ?_
  refine TL.val rfl rfl rfl (Y.conv rfl Try.underlying40 Try.underlying5 rfl (cv_16_8)) ?_
  refine TL.val rfl rfl rfl (Y.move rfl rfl) ?_
  refine TL.val rfl rfl rfl (Y.conv rfl Try.underlying40 Try.underlying5 rfl (cv_16_8)) ?_
  refine TL.eff rfl rfl rfl (X.lit rfl el85 rfl rfl rfl (by decide) rfl) ?_
  rintro _ _ ⟨g13, rfl, rfl⟩
  refine TL.eff rfl rfl rfl (X.appendS rfl el85 rfl pul rfl (by first | exact Src.owns Try.underlying85 inn | exact Src.rds Try.underlying85 inn | exact Src.reads (by assumption) Try.underlying85 inn) (by simp only [maxLen]; omega) (by omega)) ?_
  rintro _ _ ⟨a14, c14, rfl, rfl⟩
  refine TL.val rfl rfl rfl (Y.nilCheck rfl rfl) ?_
  refine TL.eff0 rfl rfl (by first | exact X.store rfl sz85 rfl rfl rfl pul lnn (by first | exact setM | rfl) | exact X.storeOwn rfl sz85 rfl (Nat.zero_add _).symm rfl rfl pul lnn (by first | exact setML | rfl) | exact X.storeOwn rfl sz85 rfl rfl rfl rfl pul lnn (by first | exact setML | rfl)) ?_
  rintro _ _ rfl
  refine TL.nil ?_
  refine TQ.endE (res0 rfl) (⟨rfl, rfl⟩) ?_
  exact (put pul (by rfl) pul (by simp [be16]) (by simp [be16]) ett)
--REG (*rostrum/wire.Writer).U32 : _ _ ⟨rfl, rfl⟩ => (wr.U32_fn _ {1} _ WL! _)
theorem U32_fn (b : Nat) (x : UInt32) (l : List UInt8) (hl : l.length ≤ 1099511627776) (L : List SA) : Fn Try.prog 45 [pt b 0, v32 x] (W b l :: L) (fun v L' => v = .tuple #[] ∧ L' = W b (l ++ be32 x) :: L) := by
  refine Fn.of (N := 22) Try.func45 rfl rfl ?_
  intro Xh
  refine TC.open pul ?_
  rintro ⟨a, cap⟩
  refine TC.split pul ?_
  refine TC.region ?_
  refine TL.val rfl rfl rfl (Y.move rfl rfl) ?_
  refine TL.val rfl rfl rfl (Y.move rfl rfl) ?_
  refine TL.val rfl rfl rfl (Y.nilCheck rfl rfl) ?_
  refine TL.val rfl rfl rfl (Y.load rfl sc85 rfl ceoD) ?_
  refine TL.val rfl rfl rfl (Y.move rfl rfl) ?_
  refine TL.val rfl rfl rfl (Y.bin rfl rfl rfl (br_shr32 (n := 24))) ?_
  refine TL.val rfl rfl rfl (Y.conv rfl Try.underlying22 Try.underlying5 rfl (cv_32_8)) ?_
  refine TL.val rfl rfl rfl (Y.move rfl rfl) ?_
  refine TL.val rfl rfl rfl (Y.bin rfl rfl rfl (br_shr32 (n := 16))) ?_
  refine TL.val rfl rfl rfl (Y.conv rfl Try.underlying22 Try.underlying5 rfl (cv_32_8)) ?_
  refine TL.val rfl rfl rfl (Y.move rfl rfl) ?_
  refine TL.val rfl rfl rfl (Y.bin rfl rfl rfl (br_shr32 (n := 8))) ?_
  refine TL.val rfl rfl rfl (Y.conv rfl Try.underlying22 Try.underlying5 rfl (cv_32_8)) ?_
  refine TL.val rfl rfl rfl (Y.move rfl rfl) ?_
  refine TL.val rfl rfl rfl (Y.conv rfl Try.underlying22 Try.underlying5 rfl (cv_32_8)) ?_
  refine TL.eff rfl rfl rfl (X.lit rfl el85 rfl rfl rfl (by decide) rfl) ?_
  rintro _ _ ⟨g19, rfl, rfl⟩
  refine TL.eff rfl rfl rfl (X.appendS rfl el85 rfl pul rfl (by first | exact Src.owns Try.underlying85 inn | exact Src.rds Try.underlying85 inn | exact Src.reads (by assumption) Try.underlying85 inn) (by simp only [maxLen]; omega) (by omega)) ?_
  rintro _ _ ⟨a20, c20, rfl, rfl⟩
  refine TL.val rfl rfl rfl (Y.nilCheck rfl rfl) ?_
  refine TL.eff0 rfl rfl (by first | exact X.store rfl sz85 rfl rfl rfl pul lnn (by first | exact setM | rfl) | exact X.storeOwn rfl sz85 rfl (Nat.zero_add _).symm rfl rfl pul lnn (by first | exact setML | rfl) | exact X.storeOwn rfl sz85 rfl rfl rfl rfl pul lnn (by first | exact setML | rfl)) ?_
  rintro _ _ rfl
  refine TL.nil ?_
  refine TQ.endE (res0 rfl) (⟨rfl, rfl⟩) ?_
  exact (put pul (by rfl) pul (by simp [be32]) (by simp [be32]) ett)
--REG (*rostrum/wire.Writer).Bytes : _ _ ⟨rfl, rfl⟩ => (wr.BytesR_fn _ _ _ _ _ _ (by first | assumption | rfl | omega) WL! _)
theorem Bytes_fn (A : SA) (b n : Nat) (s : Option Addr) (cap : Nat) (l m : List UInt8) (hA : Reads A 1 (.slice s n cap) n (m.map v8)) (hn : m.length = n) (hl : l.length + n ≤ 1099511627776) (L : List SA) :
    Fn Try.prog 48 [pt b 0, .slice s n cap] (W b l :: A :: L) (fun v L' => v = .tuple #[] ∧ L' = W b (l ++ m) :: A :: L) := by
  subst hn
  refine Fn.of (N := 11) Try.func48 rfl rfl ?_
  intro Xh
  refine TC.open pul ?_
  rintro ⟨a, c⟩
  refine TC.split pul ?_
  refine TC.region ?_
  refine TL.val rfl rfl rfl (Y.move rfl rfl) ?_
  refine TL.val rfl rfl rfl (Y.move rfl rfl) ?_
  refine TL.val rfl rfl rfl (Y.nilCheck rfl rfl) ?_
  refine TL.val rfl rfl rfl (Y.load rfl sc85 rfl ceoD) ?_
  refine TL.val rfl rfl rfl (Y.move rfl rfl) ?_
  refine TL.eff rfl rfl rfl (X.appendS rfl el85 rfl pul rfl (Src.reads hA Try.underlying23 inn) (by simp only [maxLen]; omega) (by omega)) ?_
  rintro _ _ ⟨a9, c9, rfl, rfl⟩
  refine TL.val rfl rfl rfl (Y.nilCheck rfl rfl) ?_
  refine TL.eff0 rfl rfl (by first | exact X.store rfl sz85 rfl rfl rfl pul lnn (by first | exact setM | rfl) | exact X.storeOwn rfl sz85 rfl (Nat.zero_add _).symm rfl rfl pul lnn (by first | exact setML | rfl) | exact X.storeOwn rfl sz85 rfl rfl rfl rfl pul lnn (by first | exact setML | rfl)) ?_
  rintro _ _ rfl
  refine TL.nil ?_
  refine TQ.endE (res0 rfl) (⟨rfl, rfl⟩) ?_
  exact (put pul (by rfl) pul (by simp) (by simp) ett)
theorem BytesR_fn (b n : Nat) (s : Option Addr) (cap : Nat) (l m : List UInt8) (hn : m.length = n) (hl : l.length + n ≤ 1099511627776) (L : List SA) :
    Fn Try.prog 48 [pt b 0, .slice s n cap] (W b l :: SA.rds 1 (.slice s n cap) n (m.map v8) :: L) (fun v L' => v = .tuple #[] ∧ L' = W b (l ++ m) :: SA.rds 1 (.slice s n cap) n (m.map v8) :: L) := Bytes_fn _ b n s cap l m Reads.rds hn hl L
def pad4 (l : List UInt8) : List UInt8 := l ++ List.replicate ((4 - l.length % 4) % 4) 0
theorem pad4_length (l : List UInt8) : (pad4 l).length = l.length + (4 - l.length % 4) % 4 := by simp [pad4]
theorem pad4_mod (l : List UInt8) : (pad4 l).length % 4 = 0 := by rw [pad4_length]; omega
theorem pad4_head (h l : List UInt8) (hh : h.length % 4 = 0) : pad4 (h ++ l) = h ++ pad4 l := by
  have : (4 - (h ++ l).length % 4) % 4 = (4 - l.length % 4) % 4 := by simp; omega
  simp only [pad4, this, List.append_assoc]
theorem pad4_step (l : List UInt8) (h : l.length % 4 ≠ 0) : pad4 (l ++ [0]) = pad4 l := by
  have e : (4 - l.length % 4) % 4 = (4 - (l ++ [0]).length % 4) % 4 + 1 := by simp; omega
  simp only [pad4, e, List.replicate_succ]
  simp
theorem pad4_done (l : List UInt8) (h : l.length % 4 = 0) : pad4 l = l := by simp [pad4, h]
end wr
end Go.Proofs.Ytomplpdeeomehaa
