/- The logic and the walks, in one text with others: part 3 of 4. -/
import Derived.Test.YthamkpjiecigjaaChecked
import Derived.Test.YthamkpjiecigjaaRk2
/- twcc: equal packets, taken over and compared. -/
namespace Go.Proofs.Ythamkpjiecigjaa
set_option linter.unusedVariables false
set_option linter.unusedSimpArgs false
open Go.RowKit
namespace tw
namespace FxTwccS
set_option maxRecDepth 100000
theorem ag46 : Program.aggN Try.prog 46 = some 16 := by kernel_rfl
theorem fo40_0 : Program.fieldOff Try.prog 40 0 = some 0 := by kernel_rfl
theorem fo40_1 : Program.fieldOff Try.prog 40 1 = some 1 := by kernel_rfl
theorem fo40_11 : Program.fieldOff Try.prog 40 11 = some 11 := by kernel_rfl
theorem fo40_12 : Program.fieldOff Try.prog 40 12 = some 12 := by kernel_rfl
theorem fo40_13 : Program.fieldOff Try.prog 40 13 = some 13 := by kernel_rfl
theorem fo40_14 : Program.fieldOff Try.prog 40 14 = some 14 := by kernel_rfl
theorem fo40_2 : Program.fieldOff Try.prog 40 2 = some 2 := by kernel_rfl
theorem fo40_8 : Program.fieldOff Try.prog 40 8 = some 8 := by kernel_rfl
theorem fo46_0 : Program.fieldOff Try.prog 46 0 = some 0 := by kernel_rfl
theorem fo46_1 : Program.fieldOff Try.prog 46 1 = some 1 := by kernel_rfl
theorem fo46_10 : Program.fieldOff Try.prog 46 10 = some 10 := by kernel_rfl
theorem fo46_11 : Program.fieldOff Try.prog 46 11 = some 11 := by kernel_rfl
theorem fo46_12 : Program.fieldOff Try.prog 46 12 = some 12 := by kernel_rfl
theorem fo46_13 : Program.fieldOff Try.prog 46 13 = some 13 := by kernel_rfl
theorem fo46_14 : Program.fieldOff Try.prog 46 14 = some 14 := by kernel_rfl
theorem fo46_15 : Program.fieldOff Try.prog 46 15 = some 15 := by kernel_rfl
theorem fo46_2 : Program.fieldOff Try.prog 46 2 = some 2 := by kernel_rfl
theorem fo46_3 : Program.fieldOff Try.prog 46 3 = some 3 := by kernel_rfl
theorem fo46_4 : Program.fieldOff Try.prog 46 4 = some 4 := by kernel_rfl
theorem fo46_5 : Program.fieldOff Try.prog 46 5 = some 5 := by kernel_rfl
theorem fo46_6 : Program.fieldOff Try.prog 46 6 = some 6 := by kernel_rfl
theorem fo46_7 : Program.fieldOff Try.prog 46 7 = some 7 := by kernel_rfl
theorem fo46_8 : Program.fieldOff Try.prog 46 8 = some 8 := by kernel_rfl
theorem fo46_9 : Program.fieldOff Try.prog 46 9 = some 9 := by kernel_rfl
theorem pl46 : Program.places Try.prog 46 = some [(0, 1), (1, 1), (2, 1), (3, 1), (4, 1), (5, 1), (6, 1), (7, 1), (8, 1), (9, 1), (10, 1), (11, 1), (12, 1), (13, 1), (14, 1), (15, 1)] := by kernel_rfl
theorem sc23 : Program.isSc Try.prog 23 = true := by kernel_rfl
theorem sc29 : Program.isSc Try.prog 29 = true := by kernel_rfl
theorem sc3 : Program.isSc Try.prog 3 = true := by kernel_rfl
theorem sc33 : Program.isSc Try.prog 33 = true := by kernel_rfl
theorem sc35 : Program.isSc Try.prog 35 = true := by kernel_rfl
theorem sc36 : Program.isSc Try.prog 36 = true := by kernel_rfl
theorem sc37 : Program.isSc Try.prog 37 = true := by kernel_rfl
theorem sc43 : Program.isSc Try.prog 43 = true := by kernel_rfl
theorem sc44 : Program.isSc Try.prog 44 = true := by kernel_rfl
theorem sc5 : Program.isSc Try.prog 5 = true := by kernel_rfl
theorem sc9 : Program.isSc Try.prog 9 = true := by kernel_rfl
theorem sl37 : Program.slI Try.prog 37 = some 1 := by kernel_rfl
theorem sz46 : (Try.prog.info? 46).map (·.size) = some 16 := by kernel_rfl
theorem zc46 : Program.zeroC Try.prog 46 = some #[.int .i64 0, .int .u32 0, .int .u32 0, .int .u64 0, .int .u32 0, .int .u32 0, .int .u32 0, .slice none 0 0, .string .empty, .slice none 0 0, .slice none 0 0, .int .u16 0, .int .u32 0, .int .u8 0, .slice none 0 0, .slice none 0 0] := by kernel_rfl
end FxTwccS
open FxTwccS
theorem pkOf_PK (s m : UInt32) (c : UInt8) (l : List AR) : ∃ (k : Nat) (s' m' : UInt32) (b : UInt16) (r : UInt32) (c' : UInt8), ∀ arr, pkOf s m c l arr = PK k s' m' b r c' arr := by
  unfold pkOf; split
  · exact ⟨0, 0, 0, 0, 0, 0, fun _ => rfl⟩
  · exact ⟨6, _, _, _, _, _, fun _ => rfl⟩
--REG rostrum/rostrumlaw19.ours : _ _ ⟨rfl, rfl⟩ => (tw.ours_fn _ _ _ _ _ _ _ _ _ _)
theorem ours_fn (k : Nat) (s m : UInt32) (b : UInt16) (r : UInt32) (c : UInt8) (a : Option Addr) (n cap : Nat) (L : List SA) :
    Fn Try.prog 14 [.agg (PK k s m b r c (.slice a n cap))] L (fun v L' => v = .agg (PK k s m b r c (.slice a n cap)) ∧ L' = L) := by
  refine Fn.of (N := 20) Try.func14 rfl rfl ?_
  intro Xh
  refine TC.seq ?_
  refine TC.region ?_
  refine TL.eff rfl rfl rfl (X.boxA rfl rfl) ?_
  rintro _ _ ⟨b1, rfl, rfl⟩
  refine TL.eff rfl rfl rfl (X.alloc rfl zc46) ?_
  rintro _ _ ⟨b2, rfl, rfl⟩
  refine TL.nil ?_
  refine TQ.next ?_
  refine TC.seq ?_
  refine TC.region ?_
  refine TL.val rfl rfl rfl (by first | exact Y.fieldAddrJ rfl fo40_0 rfl nqq | exact Y.fieldAddr rfl fo40_0 rfl nqq) ?_
  refine TL.val rfl rfl rfl (Y.load rfl sc3 rfl celN) ?_
  refine TL.as (vN k) (by rfl) ?_
  refine TL.val rfl rfl rfl (by first | exact Y.fieldAddrJ rfl fo40_1 rfl nqq | exact Y.fieldAddr rfl fo40_1 rfl nqq) ?_
  refine TL.val rfl rfl rfl (Y.load rfl sc23 rfl cel32) ?_
  refine TL.as (v32 s) (by rfl) ?_
  refine TL.val rfl rfl rfl (by first | exact Y.fieldAddrJ rfl fo40_2 rfl nqq | exact Y.fieldAddr rfl fo40_2 rfl nqq) ?_
  refine TL.val rfl rfl rfl (Y.load rfl sc23 rfl cel32) ?_
  refine TL.as (v32 m) (by rfl) ?_
  refine TL.val rfl rfl rfl (by first | exact Y.fieldAddrJ rfl fo40_8 rfl nqq | exact Y.fieldAddr rfl fo40_8 rfl nqq) ?_
  refine TL.val rfl rfl rfl (Y.load rfl sc9 rfl celD) ?_
  refine TL.as (.string .empty) (by rfl) ?_
  refine TL.val rfl rfl rfl (by first | exact Y.fieldAddrJ rfl fo40_11 rfl nqq | exact Y.fieldAddr rfl fo40_11 rfl nqq) ?_
  refine TL.val rfl rfl rfl (Y.load rfl sc29 rfl cel16) ?_
  refine TL.as (v16 b) (by rfl) ?_
  refine TL.val rfl rfl rfl (by first | exact Y.fieldAddrJ rfl fo40_12 rfl nqq | exact Y.fieldAddr rfl fo40_12 rfl nqq) ?_
  refine TL.val rfl rfl rfl (Y.load rfl sc23 rfl cel32) ?_
  refine TL.as (v32 r) (by rfl) ?_
  refine TL.val rfl rfl rfl (by first | exact Y.fieldAddrJ rfl fo40_13 rfl nqq | exact Y.fieldAddr rfl fo40_13 rfl nqq) ?_
  refine TL.val rfl rfl rfl (Y.load rfl sc5 rfl cel8) ?_
  refine TL.as (v8 c) (by rfl) ?_
  refine TL.val rfl rfl rfl (by first | exact Y.fieldAddrJ rfl fo40_14 rfl nqq | exact Y.fieldAddr rfl fo40_14 rfl nqq) ?_
  refine TL.val rfl rfl rfl (Y.load rfl sc37 rfl celD) ?_
  refine TL.as (.slice a n cap) (by rfl) ?_
  refine TL.val rfl rfl rfl (Y.buildS (cells := PK k s m b r c (.slice a n cap)) rfl rfl pl46 zc46 (by kernel_rfl)) ?_
  refine TL.eff0 rfl rfl (by first | exact X.storeAll rfl sz46 (by rfl) rfl rfl (allOne (by rfl)) pul (by rfl) | exact X.storeAll rfl sz46 szz rfl rfl (by simp [Value.oneCell']) pul szz | exact X.storeAgg rfl sz46 szz rfl rfl (by simp [Value.oneCell']) pul szz (writeM (by ((try simp only [List.length_set, List.length_map, List.length_append, List.length_replicate]); omega)))) ?_
  rintro _ _ rfl
  refine TL.nil ?_
  refine TQ.next ?_
  refine TC.ret ?_
  refine TQ.retE (resC rfl ag46 rfl (Cels.all (cs := PK k s m b r c (.slice a n cap)) inn) (by rfl)) (⟨rfl, rfl⟩) ?_
  exact ett
--REG rostrum/rostrumref13.SamePacket : _ _ ⟨rfl, rfl⟩ => (tw.same_fn _ _ _ _ _ _ _ _ _ _ _ _)
theorem same_fn (k : Nat) (s m : UInt32) (b : UInt16) (r : UInt32) (c : UInt8) (a a' : Option Addr) (cap cap' : Nat) (l : List Int) (L : List SA) :
    Fn Try.prog 13 [.agg (PK k s m b r c (.slice a l.length cap)), .agg (PK k s m b r c (.slice a' l.length cap'))]
      (SA.owns 3 1 (.slice a l.length cap) l.length (l.map vI) :: SA.owns 3 1 (.slice a' l.length cap') l.length (l.map vI) :: L)
      (fun v L' => v = .bool true ∧ L' = SA.owns 3 1 (.slice a l.length cap) l.length (l.map vI) :: SA.owns 3 1 (.slice a' l.length cap') l.length (l.map vI) :: L) := by
  refine Fn.of (N := 218) Try.func13 rfl rfl ?_
  intro Xh
  refine TC.seq ?_
  refine TC.region ?_
  refine TL.eff rfl rfl rfl (X.boxA rfl rfl) ?_
  rintro _ _ ⟨b2, rfl, rfl⟩
  refine TL.eff rfl rfl rfl (X.boxA rfl rfl) ?_
  rintro _ _ ⟨b3, rfl, rfl⟩
  refine TL.val rfl rfl rfl (Y.assign rfl rfl) ?_
  refine TL.nil ?_
  refine TQ.next ?_
  refine TC.seq ?_
  refine TC.seq ?_
  refine TC.region ?_
  refine TL.val rfl rfl rfl (by first | exact Y.fieldAddrJ rfl fo46_0 rfl nqq | exact Y.fieldAddr rfl fo46_0 rfl nqq) ?_
  refine TL.val rfl rfl rfl (Y.load rfl sc3 rfl celN) ?_
  refine TL.as (vN k) (by rfl) ?_
  refine TL.val rfl rfl rfl (by first | exact Y.fieldAddrJ rfl fo46_0 rfl nqq | exact Y.fieldAddr rfl fo46_0 rfl nqq) ?_
  refine TL.val rfl rfl rfl (Y.load rfl sc3 rfl celN) ?_
  refine TL.as (vN k) (by rfl) ?_
  refine TL.val rfl rfl rfl (Y.bin rfl rfl rfl (br_neN)) ?_
  refine TL.is false isf ?_
  refine TL.val rfl rfl rfl (Y.move rfl rfl) ?_
  refine TL.valG rfl rfl rfl (by first | exact Y.fieldAddrJ rfl fo46_1 rfl nqq | exact Y.fieldAddr rfl fo46_1 rfl nqq) ?_
  refine TL.valG rfl rfl rfl (Y.load rfl sc23 rfl cel32) ?_
  refine TL.as (v32 s) (by rfl) ?_
  refine TL.valG rfl rfl rfl (by first | exact Y.fieldAddrJ rfl fo46_1 rfl nqq | exact Y.fieldAddr rfl fo46_1 rfl nqq) ?_
  refine TL.valG rfl rfl rfl (Y.load rfl sc23 rfl cel32) ?_
  refine TL.as (v32 s) (by rfl) ?_
  refine TL.valG rfl rfl rfl (Y.bin rfl rfl rfl (br_ne32)) ?_
  refine TL.is false isf ?_
  refine TL.val rfl rfl rfl (Y.pick_f rfl rfl rfl) ?_
  refine TL.val rfl rfl rfl (Y.move rfl rfl) ?_
  refine TL.valG rfl rfl rfl (by first | exact Y.fieldAddrJ rfl fo46_2 rfl nqq | exact Y.fieldAddr rfl fo46_2 rfl nqq) ?_
  refine TL.valG rfl rfl rfl (Y.load rfl sc23 rfl cel32) ?_
  refine TL.as (v32 m) (by rfl) ?_
  refine TL.valG rfl rfl rfl (by first | exact Y.fieldAddrJ rfl fo46_2 rfl nqq | exact Y.fieldAddr rfl fo46_2 rfl nqq) ?_
  refine TL.valG rfl rfl rfl (Y.load rfl sc23 rfl cel32) ?_
  refine TL.as (v32 m) (by rfl) ?_
  refine TL.valG rfl rfl rfl (Y.bin rfl rfl rfl (br_ne32)) ?_
  refine TL.is false isf ?_
  refine TL.val rfl rfl rfl (Y.pick_f rfl rfl rfl) ?_
  refine TL.val rfl rfl rfl (Y.move rfl rfl) ?_
  refine TL.valG rfl rfl rfl (by first | exact Y.fieldAddrJ rfl fo46_3 rfl nqq | exact Y.fieldAddr rfl fo46_3 rfl nqq) ?_
  refine TL.valG rfl rfl rfl (Y.load rfl sc33 rfl cel64) ?_
  refine TL.as (v64 0) (by rfl) ?_
  refine TL.valG rfl rfl rfl (by first | exact Y.fieldAddrJ rfl fo46_3 rfl nqq | exact Y.fieldAddr rfl fo46_3 rfl nqq) ?_
  refine TL.valG rfl rfl rfl (Y.load rfl sc33 rfl cel64) ?_
  refine TL.as (v64 0) (by rfl) ?_
  refine TL.valG rfl rfl rfl (Y.bin rfl rfl rfl (br_ne64)) ?_
  refine TL.is false isf ?_
  refine TL.val rfl rfl rfl (Y.pick_f rfl rfl rfl) ?_
  refine TL.val rfl rfl rfl (Y.move rfl rfl) ?_
  refine TL.valG rfl rfl rfl (by first | exact Y.fieldAddrJ rfl fo46_4 rfl nqq | exact Y.fieldAddr rfl fo46_4 rfl nqq) ?_
  refine TL.valG rfl rfl rfl (Y.load rfl sc23 rfl cel32) ?_
  refine TL.as (v32 0) (by rfl) ?_
  refine TL.valG rfl rfl rfl (by first | exact Y.fieldAddrJ rfl fo46_4 rfl nqq | exact Y.fieldAddr rfl fo46_4 rfl nqq) ?_
  refine TL.valG rfl rfl rfl (Y.load rfl sc23 rfl cel32) ?_
  refine TL.as (v32 0) (by rfl) ?_
  refine TL.valG rfl rfl rfl (Y.bin rfl rfl rfl (br_ne32)) ?_
  refine TL.is false isf ?_
  refine TL.val rfl rfl rfl (Y.pick_f rfl rfl rfl) ?_
  refine TL.val rfl rfl rfl (Y.move rfl rfl) ?_
  refine TL.valG rfl rfl rfl (by first | exact Y.fieldAddrJ rfl fo46_5 rfl nqq | exact Y.fieldAddr rfl fo46_5 rfl nqq) ?_
  refine TL.valG rfl rfl rfl (Y.load rfl sc23 rfl cel32) ?_
  refine TL.as (v32 0) (by rfl) ?_
  refine TL.valG rfl rfl rfl (by first | exact Y.fieldAddrJ rfl fo46_5 rfl nqq | exact Y.fieldAddr rfl fo46_5 rfl nqq) ?_
  refine TL.valG rfl rfl rfl (Y.load rfl sc23 rfl cel32) ?_
  refine TL.as (v32 0) (by rfl) ?_
  refine TL.valG rfl rfl rfl (Y.bin rfl rfl rfl (br_ne32)) ?_
  refine TL.is false isf ?_
  refine TL.val rfl rfl rfl (Y.pick_f rfl rfl rfl) ?_
  refine TL.val rfl rfl rfl (Y.move rfl rfl) ?_
  refine TL.valG rfl rfl rfl (by first | exact Y.fieldAddrJ rfl fo46_6 rfl nqq | exact Y.fieldAddr rfl fo46_6 rfl nqq) ?_
  refine TL.valG rfl rfl rfl (Y.load rfl sc23 rfl cel32) ?_
  refine TL.as (v32 0) (by rfl) ?_
  refine TL.valG rfl rfl rfl (by first | exact Y.fieldAddrJ rfl fo46_6 rfl nqq | exact Y.fieldAddr rfl fo46_6 rfl nqq) ?_
  refine TL.valG rfl rfl rfl (Y.load rfl sc23 rfl cel32) ?_
  refine TL.as (v32 0) (by rfl) ?_
  refine TL.valG rfl rfl rfl (Y.bin rfl rfl rfl (br_ne32)) ?_
  refine TL.is false isf ?_
  refine TL.val rfl rfl rfl (Y.pick_f rfl rfl rfl) ?_
  refine TL.val rfl rfl rfl (Y.move rfl rfl) ?_
  refine TL.valG rfl rfl rfl (by first | exact Y.fieldAddrJ rfl fo46_8 rfl nqq | exact Y.fieldAddr rfl fo46_8 rfl nqq) ?_
  refine TL.valG rfl rfl rfl (Y.load rfl sc9 rfl celD) ?_
  refine TL.as (.string .empty) (by rfl) ?_
  refine TL.valG rfl rfl rfl (by first | exact Y.fieldAddrJ rfl fo46_8 rfl nqq | exact Y.fieldAddr rfl fo46_8 rfl nqq) ?_
  refine TL.valG rfl rfl rfl (Y.load rfl sc9 rfl celD) ?_
  refine TL.as (.string .empty) (by rfl) ?_
  refine TL.valG rfl rfl rfl (Y.neStr rfl rfl rfl) ?_
  refine TL.is false isf ?_
  refine TL.val rfl rfl rfl (Y.pick_f rfl rfl rfl) ?_
  refine TL.val rfl rfl rfl (Y.move rfl rfl) ?_
  refine TL.valG rfl rfl rfl (by first | exact Y.fieldAddrJ rfl fo46_11 rfl nqq | exact Y.fieldAddr rfl fo46_11 rfl nqq) ?_
  refine TL.valG rfl rfl rfl (Y.load rfl sc29 rfl cel16) ?_
  refine TL.as (v16 b) (by rfl) ?_
  refine TL.valG rfl rfl rfl (by first | exact Y.fieldAddrJ rfl fo46_11 rfl nqq | exact Y.fieldAddr rfl fo46_11 rfl nqq) ?_
  refine TL.valG rfl rfl rfl (Y.load rfl sc29 rfl cel16) ?_
  refine TL.as (v16 b) (by rfl) ?_
  refine TL.valG rfl rfl rfl (Y.bin rfl rfl rfl (br_ne16)) ?_
  refine TL.is false isf ?_
  refine TL.val rfl rfl rfl (Y.pick_f rfl rfl rfl) ?_
  refine TL.val rfl rfl rfl (Y.move rfl rfl) ?_
  refine TL.valG rfl rfl rfl (by first | exact Y.fieldAddrJ rfl fo46_12 rfl nqq | exact Y.fieldAddr rfl fo46_12 rfl nqq) ?_
  refine TL.valG rfl rfl rfl (Y.load rfl sc23 rfl cel32) ?_
  refine TL.as (v32 r) (by rfl) ?_
  refine TL.valG rfl rfl rfl (by first | exact Y.fieldAddrJ rfl fo46_12 rfl nqq | exact Y.fieldAddr rfl fo46_12 rfl nqq) ?_
  refine TL.valG rfl rfl rfl (Y.load rfl sc23 rfl cel32) ?_
  refine TL.as (v32 r) (by rfl) ?_
  refine TL.valG rfl rfl rfl (Y.bin rfl rfl rfl (br_ne32)) ?_
  refine TL.is false isf ?_
  refine TL.val rfl rfl rfl (Y.pick_f rfl rfl rfl) ?_
  refine TL.val rfl rfl rfl (Y.move rfl rfl) ?_
  refine TL.valG rfl rfl rfl (by first | exact Y.fieldAddrJ rfl fo46_13 rfl nqq | exact Y.fieldAddr rfl fo46_13 rfl nqq) ?_
  refine TL.valG rfl rfl rfl (Y.load rfl sc5 rfl cel8) ?_
  refine TL.as (v8 c) (by rfl) ?_
  refine TL.valG rfl rfl rfl (by first | exact Y.fieldAddrJ rfl fo46_13 rfl nqq | exact Y.fieldAddr rfl fo46_13 rfl nqq) ?_
  refine TL.valG rfl rfl rfl (Y.load rfl sc5 rfl cel8) ?_
  refine TL.as (v8 c) (by rfl) ?_
  refine TL.valG rfl rfl rfl (Y.bin rfl rfl rfl (br_ne8)) ?_
  refine TL.is false isf ?_
  refine TL.val rfl rfl rfl (Y.pick_f rfl rfl rfl) ?_
  refine TL.nil ?_
  refine TQ.next ?_
  refine TC.cond_f rfl ?_
  refine TC.skip ?_
  refine TQ.next ?_
  refine TC.seq ?_
  refine TC.seq ?_
  refine TC.region ?_
  refine TL.val rfl rfl rfl (by first | exact Y.fieldAddrJ rfl fo46_7 rfl nqq | exact Y.fieldAddr rfl fo46_7 rfl nqq) ?_
  refine TL.val rfl rfl rfl (Y.load rfl sc43 rfl celD) ?_
  refine TL.as (.slice none 0 0) (by rfl) ?_
  refine TL.val rfl rfl rfl (Y.len rfl Try.underlying43 rfl) ?_
  refine TL.val rfl rfl rfl (by first | exact Y.fieldAddrJ rfl fo46_7 rfl nqq | exact Y.fieldAddr rfl fo46_7 rfl nqq) ?_
  refine TL.val rfl rfl rfl (Y.load rfl sc43 rfl celD) ?_
  refine TL.as (.slice none 0 0) (by rfl) ?_
  refine TL.val rfl rfl rfl (Y.len rfl Try.underlying43 rfl) ?_
  refine TL.val rfl rfl rfl (Y.bin rfl rfl rfl (br_neN)) ?_
  refine TL.is false isf ?_
  refine TL.val rfl rfl rfl (Y.move rfl rfl) ?_
  refine TL.valG rfl rfl rfl (by first | exact Y.fieldAddrJ rfl fo46_9 rfl nqq | exact Y.fieldAddr rfl fo46_9 rfl nqq) ?_
  refine TL.valG rfl rfl rfl (Y.load rfl sc35 rfl celD) ?_
  refine TL.as (.slice none 0 0) (by rfl) ?_
  refine TL.valG rfl rfl rfl (Y.len rfl Try.underlying35 rfl) ?_
  refine TL.valG rfl rfl rfl (by first | exact Y.fieldAddrJ rfl fo46_9 rfl nqq | exact Y.fieldAddr rfl fo46_9 rfl nqq) ?_
  refine TL.valG rfl rfl rfl (Y.load rfl sc35 rfl celD) ?_
  refine TL.as (.slice none 0 0) (by rfl) ?_
  refine TL.valG rfl rfl rfl (Y.len rfl Try.underlying35 rfl) ?_
  refine TL.valG rfl rfl rfl (Y.bin rfl rfl rfl (br_neN)) ?_
  refine TL.is false isf ?_
  refine TL.val rfl rfl rfl (Y.pick_f rfl rfl rfl) ?_
  refine TL.val rfl rfl rfl (Y.move rfl rfl) ?_
  refine TL.valG rfl rfl rfl (by first | exact Y.fieldAddrJ rfl fo46_10 rfl nqq | exact Y.fieldAddr rfl fo46_10 rfl nqq) ?_
  refine TL.valG rfl rfl rfl (Y.load rfl sc36 rfl celD) ?_
  refine TL.as (.slice none 0 0) (by rfl) ?_
  refine TL.valG rfl rfl rfl (Y.len rfl Try.underlying36 rfl) ?_
  refine TL.valG rfl rfl rfl (by first | exact Y.fieldAddrJ rfl fo46_10 rfl nqq | exact Y.fieldAddr rfl fo46_10 rfl nqq) ?_
  refine TL.valG rfl rfl rfl (Y.load rfl sc36 rfl celD) ?_
  refine TL.as (.slice none 0 0) (by rfl) ?_
  refine TL.valG rfl rfl rfl (Y.len rfl Try.underlying36 rfl) ?_
  refine TL.valG rfl rfl rfl (Y.bin rfl rfl rfl (br_neN)) ?_
  refine TL.is false isf ?_
  refine TL.val rfl rfl rfl (Y.pick_f rfl rfl rfl) ?_
  refine TL.val rfl rfl rfl (Y.move rfl rfl) ?_
  refine TL.valG rfl rfl rfl (by first | exact Y.fieldAddrJ rfl fo46_14 rfl nqq | exact Y.fieldAddr rfl fo46_14 rfl nqq) ?_
  refine TL.valG rfl rfl rfl (Y.load rfl sc37 rfl celD) ?_
  refine TL.as (.slice a l.length cap) (by rfl) ?_
  refine TL.valG rfl rfl rfl (Y.len rfl Try.underlying37 rfl) ?_
  refine TL.valG rfl rfl rfl (by first | exact Y.fieldAddrJ rfl fo46_14 rfl nqq | exact Y.fieldAddr rfl fo46_14 rfl nqq) ?_
  refine TL.valG rfl rfl rfl (Y.load rfl sc37 rfl celD) ?_
  refine TL.as (.slice a' l.length cap') (by rfl) ?_
  refine TL.valG rfl rfl rfl (Y.len rfl Try.underlying37 rfl) ?_
  refine TL.valG rfl rfl rfl (Y.bin rfl rfl rfl (br_neN)) ?_
  refine TL.is false isf ?_
  refine TL.val rfl rfl rfl (Y.pick_f rfl rfl rfl) ?_
  refine TL.val rfl rfl rfl (Y.move rfl rfl) ?_
  refine TL.valG rfl rfl rfl (by first | exact Y.fieldAddrJ rfl fo46_15 rfl nqq | exact Y.fieldAddr rfl fo46_15 rfl nqq) ?_
  refine TL.valG rfl rfl rfl (Y.load rfl sc44 rfl celD) ?_
  refine TL.as (.slice none 0 0) (by rfl) ?_
  refine TL.valG rfl rfl rfl (Y.len rfl Try.underlying44 rfl) ?_
  refine TL.valG rfl rfl rfl (by first | exact Y.fieldAddrJ rfl fo46_15 rfl nqq | exact Y.fieldAddr rfl fo46_15 rfl nqq) ?_
  refine TL.valG rfl rfl rfl (Y.load rfl sc44 rfl celD) ?_
  refine TL.as (.slice none 0 0) (by rfl) ?_
  refine TL.valG rfl rfl rfl (Y.len rfl Try.underlying44 rfl) ?_
  refine TL.valG rfl rfl rfl (Y.bin rfl rfl rfl (br_neN)) ?_
  refine TL.is false isf ?_
  refine TL.val rfl rfl rfl (Y.pick_f rfl rfl rfl) ?_
  refine TL.nil ?_
  refine TQ.next ?_
  refine TC.cond_f rfl ?_
  refine TC.skip ?_
  refine TQ.next ?_
  refine TC.seq ?_
  refine TC.seq ?_
  refine TC.region ?_
  refine TL.val rfl rfl rfl (by first | exact Y.fieldAddrJ rfl fo46_7 rfl nqq | exact Y.fieldAddr rfl fo46_7 rfl nqq) ?_
  refine TL.val rfl rfl rfl (Y.load rfl sc43 rfl celD) ?_
  refine TL.as (.slice none 0 0) (by rfl) ?_
  refine TL.val rfl rfl rfl (Y.len rfl Try.underlying43 rfl) ?_
  refine TL.val rfl rfl rfl (Y.move rfl rfl) ?_
  refine TL.nil ?_
  refine TQ.next ?_
  refine TC.block ?_
  refine TC.loopF (ι := Unit) [4] (fun _ => True) (fun _ => [(131, some (vN 0))]) (fun _ => []) (fun _ => 0) (()) (trivial) ⟨rfl, trivial⟩ Pulls.nil ?_
  rintro ⟨⟩ - F' L' rfl hL'
  simp only [List.cons_append, List.nil_append] at hL'
  subst hL'
  refine TC.seq ?_
  refine TC.region ?_
  refine TL.val rfl rfl rfl (Y.bin rfl rfl rfl (br_ltN)) ?_
  refine TL.is false isf ?_
  refine TL.nil ?_
  refine TQ.next ?_
  refine TC.seq ?_
  refine TC.cond_f rfl ?_
  refine TC.exit ?_
  refine TQ.then_exit ?_
  refine TQ.then_exit ?_
  refine TQ.block_exit ?_
  refine TQ.next ?_
  refine TC.seq ?_
  refine TC.seq ?_
  refine TC.region ?_
  refine TL.val rfl rfl rfl (by first | exact Y.fieldAddrJ rfl fo46_9 rfl nqq | exact Y.fieldAddr rfl fo46_9 rfl nqq) ?_
  refine TL.val rfl rfl rfl (Y.load rfl sc35 rfl celD) ?_
  refine TL.as (.slice none 0 0) (by rfl) ?_
  refine TL.val rfl rfl rfl (Y.len rfl Try.underlying35 rfl) ?_
  refine TL.val rfl rfl rfl (Y.move rfl rfl) ?_
  refine TL.nil ?_
  refine TQ.next ?_
  refine TC.block ?_
  refine TC.loopF (ι := Unit) [4] (fun _ => True) (fun _ => [(149, some (vN 0))]) (fun _ => []) (fun _ => 0) (()) (trivial) ⟨rfl, trivial⟩ Pulls.nil ?_
  rintro ⟨⟩ - F' L' rfl hL'
  simp only [List.cons_append, List.nil_append] at hL'
  subst hL'
  refine TC.seq ?_
  refine TC.region ?_
  refine TL.val rfl rfl rfl (Y.bin rfl rfl rfl (br_ltN)) ?_
  refine TL.is false isf ?_
  refine TL.nil ?_
  refine TQ.next ?_
  refine TC.seq ?_
  refine TC.cond_f rfl ?_
  refine TC.exit ?_
  refine TQ.then_exit ?_
  refine TQ.then_exit ?_
  refine TQ.block_exit ?_
  refine TQ.next ?_
  refine TC.seq ?_
  refine TC.seq ?_
  refine TC.region ?_
  refine TL.val rfl rfl rfl (by first | exact Y.fieldAddrJ rfl fo46_10 rfl nqq | exact Y.fieldAddr rfl fo46_10 rfl nqq) ?_
  refine TL.val rfl rfl rfl (Y.load rfl sc36 rfl celD) ?_
  refine TL.as (.slice none 0 0) (by rfl) ?_
  refine TL.val rfl rfl rfl (Y.len rfl Try.underlying36 rfl) ?_
  refine TL.val rfl rfl rfl (Y.move rfl rfl) ?_
  refine TL.nil ?_
  refine TQ.next ?_
  refine TC.block ?_
  refine TC.loopF (ι := Unit) [4] (fun _ => True) (fun _ => [(167, some (vN 0))]) (fun _ => []) (fun _ => 0) (()) (trivial) ⟨rfl, trivial⟩ Pulls.nil ?_
  rintro ⟨⟩ - F' L' rfl hL'
  simp only [List.cons_append, List.nil_append] at hL'
  subst hL'
  refine TC.seq ?_
  refine TC.region ?_
  refine TL.val rfl rfl rfl (Y.bin rfl rfl rfl (br_ltN)) ?_
  refine TL.is false isf ?_
  refine TL.nil ?_
  refine TQ.next ?_
  refine TC.seq ?_
  refine TC.cond_f rfl ?_
  refine TC.exit ?_
  refine TQ.then_exit ?_
  refine TQ.then_exit ?_
  refine TQ.block_exit ?_
  refine TQ.next ?_
  refine TC.seq ?_
  refine TC.seq ?_
  refine TC.region ?_
  refine TL.val rfl rfl rfl (by first | exact Y.fieldAddrJ rfl fo46_14 rfl nqq | exact Y.fieldAddr rfl fo46_14 rfl nqq) ?_
  refine TL.val rfl rfl rfl (Y.load rfl sc37 rfl celD) ?_
  refine TL.as (.slice a l.length cap) (by rfl) ?_
  refine TL.val rfl rfl rfl (Y.len rfl Try.underlying37 rfl) ?_
  refine TL.val rfl rfl rfl (Y.move rfl rfl) ?_
  refine TL.nil ?_
  refine TQ.next ?_
  refine TC.block ?_
  refine TC.know (owns_cap (a := a) (n := l.length) (cap := cap) inn) ?_
  rintro ⟨hc1, hc2, hlen⟩
  simp only [maxLen] at hc2
  refine TC.loopF (ι := Nat) [4] (fun k => k ≤ l.length) (fun k => [(185, some (vN k))]) (fun k => []) (fun k => l.length - k) (0) (by omega) ⟨rfl, trivial⟩ Pulls.nil ?_
  rintro k hk F' L' rfl hL'
  simp only [List.cons_append, List.nil_append] at hL'
  subst hL'
  refine TC.seq ?_
  refine TC.region ?_
  refine TL.val rfl rfl rfl (Y.bin rfl rfl rfl (br_ltN)) ?_
  refine TL.nil ?_
  refine TQ.next ?_
  refine TC.seq ?_
  refine TC.cond rfl (fun c5 => ?_) (fun c5 => ?_)
  · try simp only [decide_eq_true_eq, decide_eq_false_iff_not, Bool.not_eq_true', Bool.not_eq_false', Bool.and_eq_true, Bool.or_eq_true, Nat.not_lt, Nat.not_le, beq_iff_eq, bne_iff_ne] at c5
    refine TC.skip ?_
    refine TQ.next ?_
    refine TC.seq ?_
    refine TC.block ?_
    refine TC.seq ?_
    refine TC.know (owns_some (n := l.length) (a := a) inn (by omega)) ?_
    rintro ⟨g, off, rfl⟩
    refine TC.know (owns_some (n := l.length) (a := a') inn (by omega)) ?_
    rintro ⟨g', off', rfl⟩
    obtain ⟨x, hx, -⟩ := getS (l := l) (i := k) (by omega)
    have hcx : (l.map vI)[k]? = some (vI x) := by rw [List.getElem?_map, hx]; rfl
    refine TC.region ?_
    refine TL.val rfl rfl rfl (Y.move rfl rfl) ?_
    refine TL.val rfl rfl rfl (Y.assign rfl rfl) ?_
    refine TL.nil ?_
    refine TQ.next ?_
    refine TC.seq ?_
    refine TC.draws 11 _ (by kernel_rfl) (by kernel_rfl) (fun _ h => h) ?_
    refine TA.tk 0 rfl rfl (by first | exact Y.fieldAddrJ rfl fo46_14 rfl nqq | exact Y.fieldAddr rfl fo46_14 rfl nqq) ?_
    refine TA.tk 1 rfl rfl (Y.load rfl sc37 rfl celD) ?_
    refine TA.as (.slice (some ⟨g, off, none⟩) l.length cap) (by rfl) ?_
    refine TA.tk 2 rfl rfl (Y.move rfl rfl) ?_
    refine TA.tk 3 rfl rfl (by first | exact Y.indexSlB rfl sl37 rfl rfl (by omega) nqq | exact Y.indexSl rfl sl37 rfl rfl (by omega) nqq) ?_
    refine TA.tk 4 rfl rfl (Y.load rfl sc3 rfl (Cel.owns inn hcx)) ?_
    refine TA.tk 5 rfl rfl (by first | exact Y.fieldAddrJ rfl fo46_14 rfl nqq | exact Y.fieldAddr rfl fo46_14 rfl nqq) ?_
    refine TA.tk 6 rfl rfl (Y.load rfl sc37 rfl celD) ?_
    refine TA.as (.slice (some ⟨g', off', none⟩) l.length cap') (by rfl) ?_
    refine TA.tk 7 rfl rfl (Y.move rfl rfl) ?_
    refine TA.tk 8 rfl rfl (by first | exact Y.indexSlB rfl sl37 rfl rfl (by omega) nqq | exact Y.indexSl rfl sl37 rfl rfl (by omega) nqq) ?_
    refine TA.tk 9 rfl rfl (Y.load rfl sc3 rfl (Cel.owns inn hcx)) ?_
    refine TA.tk 10 rfl rfl (Y.bin rfl rfl rfl (br_neI)) ?_
    refine TA.is false isf ?_
    refine TA.done (by kernel_rfl) ?_
    refine TQ.next ?_
    refine TC.cond_f rfl ?_
    refine TC.skip ?_
    refine TQ.block_normal ?_
    refine TQ.next ?_
    refine TC.region ?_
    refine TL.val rfl rfl rfl (Y.bin rfl rfl rfl (br_addN (n := 1) (by omega))) ?_
    refine TL.val rfl rfl rfl (Y.move rfl rfl) ?_
    refine TL.nil ?_
    refine TQ.loopF (k + 1) (by omega) (by omega) ⟨rfl, trivial⟩ grw ?_ ?_ ?_
    · kernel_rfl
    · rfl
    · simp only [List.cons_append, List.nil_append]
      exact ett
  · try simp only [decide_eq_true_eq, decide_eq_false_iff_not, Bool.not_eq_true', Bool.not_eq_false', Bool.and_eq_true, Bool.or_eq_true, Nat.not_lt, Nat.not_le, beq_iff_eq, bne_iff_ne] at c5
    refine TC.exit ?_
    refine TQ.then_exit ?_
    refine TQ.then_exit ?_
    refine TQ.block_exit ?_
    refine TQ.next ?_
    refine TC.seq ?_
    refine TC.seq ?_
    refine TC.region ?_
    refine TL.val rfl rfl rfl (by first | exact Y.fieldAddrJ rfl fo46_15 rfl nqq | exact Y.fieldAddr rfl fo46_15 rfl nqq) ?_
    refine TL.val rfl rfl rfl (Y.load rfl sc44 rfl celD) ?_
    refine TL.as (.slice none 0 0) (by rfl) ?_
    refine TL.val rfl rfl rfl (Y.len rfl Try.underlying44 rfl) ?_
    refine TL.val rfl rfl rfl (Y.move rfl rfl) ?_
    refine TL.nil ?_
    refine TQ.next ?_
    refine TC.block ?_
    refine TC.loopF (ι := Unit) [4] (fun _ => True) (fun _ => [(203, some (vN 0))]) (fun _ => []) (fun _ => 0) (()) (trivial) ⟨rfl, trivial⟩ Pulls.nil ?_
    rintro ⟨⟩ - F' L' rfl hL'
    simp only [List.cons_append, List.nil_append] at hL'
    subst hL'
    refine TC.seq ?_
    refine TC.region ?_
    refine TL.val rfl rfl rfl (Y.bin rfl rfl rfl (br_ltN)) ?_
    refine TL.is false isf ?_
    refine TL.nil ?_
    refine TQ.next ?_
    refine TC.seq ?_
    refine TC.cond_f rfl ?_
    refine TC.exit ?_
    refine TQ.then_exit ?_
    refine TQ.then_exit ?_
    refine TQ.block_exit ?_
    refine TQ.next ?_
    refine TC.seq ?_
    refine TC.region ?_
    refine TL.val rfl rfl rfl (Y.assign rfl rfl) ?_
    refine TL.nil ?_
    refine TQ.next ?_
    refine TC.ret ?_
    refine TQ.retE (res1 rfl rfl) (⟨rfl, rfl⟩) ?_
    exact ett
end tw
end Go.Proofs.Ythamkpjiecigjaa

/- twcc: the statements' walks. -/
namespace Go.Proofs.Ythamkpjiecigjaa
set_option linter.unusedVariables false
set_option linter.unusedSimpArgs false
open Go.RowKit
namespace tw
namespace FxTwccT
set_option maxRecDepth 100000
theorem ag40 : Program.aggN Try.prog 40 = some 16 := by kernel_rfl
theorem ag46 : Program.aggN Try.prog 46 = some 16 := by kernel_rfl
theorem fo31_0 : Program.fieldOff Try.prog 31 0 = some 0 := by kernel_rfl
theorem fo31_1 : Program.fieldOff Try.prog 31 1 = some 1 := by kernel_rfl
theorem fo31_2 : Program.fieldOff Try.prog 31 2 = some 2 := by kernel_rfl
theorem fo40_11 : Program.fieldOff Try.prog 40 11 = some 11 := by kernel_rfl
theorem fo40_12 : Program.fieldOff Try.prog 40 12 = some 12 := by kernel_rfl
theorem fo40_14 : Program.fieldOff Try.prog 40 14 = some 14 := by kernel_rfl
theorem pl40 : Program.places Try.prog 40 = some [(0, 1), (1, 1), (2, 1), (3, 1), (4, 1), (5, 1), (6, 1), (7, 1), (8, 1), (9, 1), (10, 1), (11, 1), (12, 1), (13, 1), (14, 1), (15, 1)] := by kernel_rfl
theorem sc2 : Program.isSc Try.prog 2 = true := by kernel_rfl
theorem sc23 : Program.isSc Try.prog 23 = true := by kernel_rfl
theorem sc29 : Program.isSc Try.prog 29 = true := by kernel_rfl
theorem sc3 : Program.isSc Try.prog 3 = true := by kernel_rfl
theorem sc37 : Program.isSc Try.prog 37 = true := by kernel_rfl
theorem sc4 : Program.isSc Try.prog 4 = true := by kernel_rfl
theorem sl22 : Program.slI Try.prog 22 = some 3 := by kernel_rfl
theorem sz40 : (Try.prog.info? 40).map (·.size) = some 16 := by kernel_rfl
theorem sz46 : (Try.prog.info? 46).map (·.size) = some 16 := by kernel_rfl
theorem zc40 : Program.zeroC Try.prog 40 = some #[.int .i64 0, .int .u32 0, .int .u32 0, .int .u64 0, .int .u32 0, .int .u32 0, .int .u32 0, .slice none 0 0, .string .empty, .slice none 0 0, .slice none 0 0, .int .u16 0, .int .u32 0, .int .u8 0, .slice none 0 0, .slice none 0 0] := by kernel_rfl
theorem zc46 : Program.zeroC Try.prog 46 = some #[.int .i64 0, .int .u32 0, .int .u32 0, .int .u64 0, .int .u32 0, .int .u32 0, .int .u32 0, .slice none 0 0, .string .empty, .slice none 0 0, .slice none 0 0, .int .u16 0, .int .u32 0, .int .u8 0, .slice none 0 0, .slice none 0 0] := by kernel_rfl
end FxTwccT
open FxTwccT
theorem aw1 : nt [] 5 100 = [(5, 100)] := by decide +kernel
theorem aw2 : nt [(5, 100)] 7 103 = [(5, 100), (7, 103)] := by decide +kernel
theorem aw3 : al [(5, 100), (7, 103)] = [144, 65536, 12] := by decide +kernel
theorem aw4 (arr : Value) : pkOf 1 2 0 [(5, 100), (7, 103)] arr = PK 6 1 2 5 1 0 arr := by
  show PK 6 1 2 5 (rf 100) 0 arr = _
  rw [show rf 100 = 1 by decide +kernel]
--REG rostrum/rostrumlaw19.awake : _ _ ⟨rfl, rfl⟩ => (tw.awake_fn _)
theorem awake_fn (L : List SA) : Fn Try.prog 6 [] L (fun v L' => v = .bool true ∧ L' = L) := by
  refine Fn.of (N := 52) Try.func6 rfl rfl ?_
  intro Xh
  refine TC.seq ?_
  refine TC.region ?_
  refine TL.val rfl rfl rfl (Y.assign rfl rfl) ?_
  refine TL.nil ?_
  refine TQ.next ?_
  refine TC.seq ?_
  refine TC.region ?_
  refine TL.eff rfl rfl rfl (X.cl rfl Try.func7 rfl (h := (tw.New_fn _))) ?_
  rintro _ _ ⟨r4, rg4, rfl, rfl⟩
  refine TL.val rfl rfl rfl (Y.assign rfl rfl) ?_
  refine TL.nil ?_
  refine TQ.next ?_
  refine TC.seq ?_
  refine TC.region ?_
  refine TL.val rfl rfl rfl (Y.move rfl rfl) ?_
  refine TL.eff rfl rfl rfl (X.cl rfl Try.func9 rfl (h := (tw.Note_fn _ _ _ [] 5 100 (by decide) _))) ?_
  rintro _ _ rfl
  rw [aw1]
  refine TL.nil ?_
  refine TQ.next ?_
  refine TC.seq ?_
  refine TC.region ?_
  refine TL.val rfl rfl rfl (Y.move rfl rfl) ?_
  refine TL.eff rfl rfl rfl (X.cl rfl Try.func9 rfl (h := (tw.Note_fn _ _ _ [(5, 100)] 7 103 (by decide) _))) ?_
  rintro _ _ rfl
  rw [aw2]
  refine TL.nil ?_
  refine TQ.next ?_
  refine TC.seq ?_
  refine TC.region ?_
  refine TL.val rfl rfl rfl (Y.move rfl rfl) ?_
  refine TL.eff rfl rfl rfl (X.cl rfl Try.func11 rfl (h := (tw.Feedback_fn _ _ _ [(5, 100), (7, 103)] 1 2 (by decide) (by decide) _))) ?_
  rintro _ _ ⟨a11, c11, g11, rfl, rfl⟩
  rw [aw3, aw4]
  refine TL.val rfl rfl rfl (Y.move rfl rfl) ?_
  refine TL.val rfl rfl rfl (Y.extract rfl rfl rfl) ?_
  refine TL.val rfl rfl rfl (Y.extract rfl rfl rfl) ?_
  refine TL.is true isf ?_
  refine TL.eff rfl rfl rfl (X.alloc rfl zc40) ?_
  rintro _ _ ⟨b2, rfl, rfl⟩
  refine TL.eff0 rfl rfl (by first | exact X.storeAll rfl sz40 (by rfl) rfl rfl (allOne (by rfl)) pul (by rfl) | exact X.storeAll rfl sz40 szz rfl rfl (by simp [Value.oneCell']) pul szz | exact X.storeAgg rfl sz40 szz rfl rfl (by simp [Value.oneCell']) pul szz (writeM (by ((try simp only [List.length_set, List.length_map, List.length_append, List.length_replicate]); omega)))) ?_
  rintro _ _ rfl
  refine TL.val rfl rfl rfl (Y.assign rfl rfl) ?_
  refine TL.nil ?_
  refine TQ.next ?_
  refine TC.seq ?_
  refine TC.know (owns_some (n := ([144, 65536, 12] : List Int).length) (a := a11) inn (by decide)) ?_
  rintro ⟨g, off, rfl⟩
  refine TC.region ?_
  refine TL.val rfl rfl rfl (Y.move rfl rfl) ?_
  refine TL.val rfl rfl rfl (Y.move rfl rfl) ?_
  refine TL.valG rfl rfl rfl (by first | exact Y.fieldAddrJ rfl fo40_11 rfl nqq | exact Y.fieldAddr rfl fo40_11 rfl nqq) ?_
  refine TL.valG rfl rfl rfl (Y.load rfl sc29 rfl cel16) ?_
  refine TL.as (v16 5) (by rfl) ?_
  refine TL.valG rfl rfl rfl (Y.bin rfl rfl rfl (br_eq16 (y := 5))) ?_
  refine TL.is true isf ?_
  refine TL.val rfl rfl rfl (Y.pick_t rfl rfl rfl) ?_
  refine TL.val rfl rfl rfl (Y.move rfl rfl) ?_
  refine TL.valG rfl rfl rfl (by first | exact Y.fieldAddrJ rfl fo40_12 rfl nqq | exact Y.fieldAddr rfl fo40_12 rfl nqq) ?_
  refine TL.valG rfl rfl rfl (Y.load rfl sc23 rfl cel32) ?_
  refine TL.as (v32 1) (by rfl) ?_
  refine TL.valG rfl rfl rfl (Y.bin rfl rfl rfl (br_eq32 (y := 1))) ?_
  refine TL.is true isf ?_
  refine TL.val rfl rfl rfl (Y.pick_t rfl rfl rfl) ?_
  refine TL.val rfl rfl rfl (Y.move rfl rfl) ?_
  refine TL.valG rfl rfl rfl (by first | exact Y.fieldAddrJ rfl fo40_14 rfl nqq | exact Y.fieldAddr rfl fo40_14 rfl nqq) ?_
  refine TL.valG rfl rfl rfl (Y.load rfl sc37 rfl celD) ?_
  refine TL.as (.slice (some ⟨g, off, none⟩) ([144, 65536, 12] : List Int).length c11) (by rfl) ?_
  refine TL.valG rfl rfl rfl (Y.len rfl Try.underlying37 rfl) ?_
  refine TL.valG rfl rfl rfl (Y.bin rfl rfl rfl (br_eqN (n := 3))) ?_
  refine TL.is true isf ?_
  refine TL.val rfl rfl rfl (Y.pick_t rfl rfl rfl) ?_
  refine TL.val rfl rfl rfl (Y.move rfl rfl) ?_
  refine TL.valG rfl rfl rfl (by first | exact Y.fieldAddrJ rfl fo40_14 rfl nqq | exact Y.fieldAddr rfl fo40_14 rfl nqq) ?_
  refine TL.valG rfl rfl rfl (Y.load rfl sc37 rfl celD) ?_
  refine TL.as (.slice (some ⟨g, off, none⟩) ([144, 65536, 12] : List Int).length c11) (by rfl) ?_
  refine TL.valG rfl rfl rfl (Y.indexSlB (j := 0) (sz := 1) (q := off) rfl (by kernel_rfl) rfl rfl (by decide) nqq) ?_
  refine TL.valG rfl rfl rfl (Y.load rfl sc3 rfl (Cel.owns0 inn rfl)) ?_
  refine TL.as (vI 144) (by rfl) ?_
  refine TL.valG rfl rfl rfl (Y.bin rfl rfl rfl (br_eqI (n := 144))) ?_
  refine TL.is true isf ?_
  refine TL.val rfl rfl rfl (Y.pick_t rfl rfl rfl) ?_
  refine TL.val rfl rfl rfl (Y.move rfl rfl) ?_
  refine TL.valG rfl rfl rfl (by first | exact Y.fieldAddrJ rfl fo40_14 rfl nqq | exact Y.fieldAddr rfl fo40_14 rfl nqq) ?_
  refine TL.valG rfl rfl rfl (Y.load rfl sc37 rfl celD) ?_
  refine TL.as (.slice (some ⟨g, off, none⟩) ([144, 65536, 12] : List Int).length c11) (by rfl) ?_
  refine TL.valG rfl rfl rfl (Y.indexSlB (j := 1) (sz := 1) (q := off + 1) rfl (by kernel_rfl) rfl rfl (by decide) nqq) ?_
  refine TL.valG rfl rfl rfl (Y.load rfl sc3 rfl (Cel.owns (j := 1) inn rfl)) ?_
  refine TL.as (vI 65536) (by rfl) ?_
  refine TL.valG rfl rfl rfl (Y.bin rfl rfl rfl (br_eqI (n := 65536))) ?_
  refine TL.is true isf ?_
  refine TL.val rfl rfl rfl (Y.pick_t rfl rfl rfl) ?_
  refine TL.val rfl rfl rfl (Y.move rfl rfl) ?_
  refine TL.valG rfl rfl rfl (by first | exact Y.fieldAddrJ rfl fo40_14 rfl nqq | exact Y.fieldAddr rfl fo40_14 rfl nqq) ?_
  refine TL.valG rfl rfl rfl (Y.load rfl sc37 rfl celD) ?_
  refine TL.as (.slice (some ⟨g, off, none⟩) ([144, 65536, 12] : List Int).length c11) (by rfl) ?_
  refine TL.valG rfl rfl rfl (Y.indexSlB (j := 2) (sz := 1) (q := off + 2) rfl (by kernel_rfl) rfl rfl (by decide) nqq) ?_
  refine TL.valG rfl rfl rfl (Y.load rfl sc3 rfl (Cel.owns (j := 2) inn rfl)) ?_
  refine TL.as (vI 12) (by rfl) ?_
  refine TL.valG rfl rfl rfl (Y.bin rfl rfl rfl (br_eqI (n := 12))) ?_
  refine TL.is true isf ?_
  refine TL.val rfl rfl rfl (Y.pick_t rfl rfl rfl) ?_
  refine TL.is true isf ?_
  refine TL.val rfl rfl rfl (Y.assign rfl rfl) ?_
  refine TL.nil ?_
  refine TQ.next ?_
  refine TC.ret ?_
  refine TQ.retE (res1 rfl rfl) (⟨rfl, rfl⟩) ?_
  exact ett
theorem Note_nil (q : UInt16) (now : Int) (L : List SA) : Fn Try.prog 9 [.pointer none, v16 q, vI now] L (fun _ L' => L' = L) := by
  refine Fn.of (N := 28) Try.func9 rfl rfl ?_
  intro Xh
  refine TC.seq ?_
  refine TC.seq ?_
  refine TC.region ?_
  refine TL.val rfl rfl rfl (Y.move rfl rfl) ?_
  refine TL.val rfl rfl rfl (by first | exact Y.eqNilP rfl Try.underlying25 rfl rfl | exact Y.eqNil0 rfl Try.underlying25 rfl rfl) ?_
  refine TL.nil ?_
  refine TQ.next ?_
  refine TC.cond_t rfl ?_
  refine TC.ret ?_
  refine TQ.then_ret ?_
  refine TQ.retE (res0 rfl) (rfl) ?_
  exact ett
theorem Feedback_nil (s m : UInt32) (L : List SA) : Fn Try.prog 11 [.pointer none, v32 s, v32 m] L (fun v L' => v = .tuple #[.agg (PK 0 0 0 0 0 0 (.slice none 0 0)), .bool false] ∧ L' = L) := by
  refine Fn.of (N := 116) Try.func11 rfl rfl ?_
  intro Xh
  refine TC.seq ?_
  refine TC.region ?_
  refine TL.eff rfl rfl rfl (X.alloc rfl zc40) ?_
  rintro _ _ ⟨b6, rfl, rfl⟩
  refine TL.val rfl rfl rfl (Y.assign rfl rfl) ?_
  refine TL.nil ?_
  refine TQ.next ?_
  refine TC.seq ?_
  refine TC.seq ?_
  refine TC.region ?_
  refine TL.val rfl rfl rfl (Y.move rfl rfl) ?_
  refine TL.val rfl rfl rfl (by first | exact Y.eqNilP rfl Try.underlying25 rfl rfl | exact Y.eqNil0 rfl Try.underlying25 rfl rfl) ?_
  refine TL.val rfl rfl rfl (Y.move rfl rfl) ?_
  refine TL.not rfl rfl rfl ?_
  refine TL.not rfl rfl rfl ?_
  refine TL.not rfl rfl rfl ?_
  refine TL.not rfl rfl rfl ?_
  refine TL.not rfl rfl rfl ?_
  refine TL.not rfl rfl rfl ?_
  refine TL.val rfl rfl rfl (Y.pick_t rfl rfl rfl) ?_
  refine TL.nil ?_
  refine TQ.next ?_
  refine TC.cond_t rfl ?_
  refine TC.seq ?_
  refine TC.region ?_
  refine TL.val rfl rfl rfl (Y.buildS (cells := PK 0 0 0 0 0 0 (.slice none 0 0)) rfl rfl pl40 zc40 (by kernel_rfl)) ?_
  refine TL.eff0 rfl rfl (by first | exact X.storeAll rfl sz40 (by rfl) rfl rfl (allOne (by rfl)) pul (by rfl) | exact X.storeAll rfl sz40 szz rfl rfl (by simp [Value.oneCell']) pul szz | exact X.storeAgg rfl sz40 szz rfl rfl (by simp [Value.oneCell']) pul szz (writeM (by ((try simp only [List.length_set, List.length_map, List.length_append, List.length_replicate]); omega)))) ?_
  rintro _ _ rfl
  refine TL.val rfl rfl rfl (Y.assign rfl rfl) ?_
  refine TL.nil ?_
  refine TQ.next ?_
  refine TC.ret ?_
  refine TQ.then_ret ?_
  refine TQ.retE (resL rfl (Res.agg rfl ag40 (Cels.all (cs := PK 0 0 0 0 0 0 (.slice none 0 0)) inn) (by first | rfl | assumption | omega) (Res.tmp rfl Res.nil))) (⟨rfl, rfl⟩) ?_
  exact ett
theorem Now_nil (L : List SA) : Fn Try.prog 17 [.pointer none] L (fun v L' => v = vI 0 ∧ L' = L) := by
  refine Fn.of (N := 9) Try.func17 rfl rfl ?_
  intro Xh
  refine TC.seq ?_
  refine TC.region ?_
  refine TL.val rfl rfl rfl (Y.assign rfl rfl) ?_
  refine TL.nil ?_
  refine TQ.next ?_
  refine TC.seq ?_
  refine TC.seq ?_
  refine TC.region ?_
  refine TL.val rfl rfl rfl (Y.move rfl rfl) ?_
  refine TL.val rfl rfl rfl (by first | exact Y.eqNilP rfl Try.underlying60 rfl rfl | exact Y.eqNil0 rfl Try.underlying60 rfl rfl) ?_
  refine TL.nil ?_
  refine TQ.next ?_
  refine TC.cond_t rfl ?_
  refine TC.seq ?_
  refine TC.region ?_
  refine TL.val rfl rfl rfl (Y.assign rfl rfl) ?_
  refine TL.nil ?_
  refine TQ.next ?_
  refine TC.ret ?_
  refine TQ.then_ret ?_
  refine TQ.retE (res1 rfl rfl) (⟨rfl, rfl⟩) ?_
  exact ett
theorem Update_nil (L : List SA) : Fn Try.prog 18 [.pointer none, .agg (PK 0 0 0 0 0 0 (.slice none 0 0))] L (fun v L' => v = vI 0 ∧ L' = L) := by
  refine Fn.of (N := 96) Try.func18 rfl rfl ?_
  intro Xh
  refine TC.seq ?_
  refine TC.region ?_
  refine TL.eff rfl rfl rfl (X.boxA rfl rfl) ?_
  rintro _ _ ⟨b3, rfl, rfl⟩
  refine TL.val rfl rfl rfl (Y.assign rfl rfl) ?_
  refine TL.nil ?_
  refine TQ.next ?_
  refine TC.seq ?_
  refine TC.seq ?_
  refine TC.region ?_
  refine TL.val rfl rfl rfl (Y.move rfl rfl) ?_
  refine TL.val rfl rfl rfl (by first | exact Y.eqNilP rfl Try.underlying60 rfl rfl | exact Y.eqNil0 rfl Try.underlying60 rfl rfl) ?_
  refine TL.nil ?_
  refine TQ.next ?_
  refine TC.cond_t rfl ?_
  refine TC.seq ?_
  refine TC.region ?_
  refine TL.val rfl rfl rfl (Y.assign rfl rfl) ?_
  refine TL.nil ?_
  refine TQ.next ?_
  refine TC.ret ?_
  refine TQ.then_ret ?_
  refine TQ.retE (res1 rfl rfl) (⟨rfl, rfl⟩) ?_
  exact ett
theorem nil_fn (q : UInt16) (now : Int) (L : List SA) : Fn Try.prog 5 [v16 q, vI now] L (fun v L' => v = .bool true ∧ L' = L) := by
  refine Fn.of (N := 33) Try.func5 rfl rfl ?_
  intro Xh
  refine TC.seq ?_
  refine TC.region ?_
  refine TL.val rfl rfl rfl (Y.assign rfl rfl) ?_
  refine TL.nil ?_
  refine TQ.next ?_
  refine TC.seq ?_
  refine TC.seq ?_
  refine TC.region ?_
  refine TL.eff rfl rfl rfl (X.cl rfl Try.func6 rfl (h := (tw.awake_fn _))) ?_
  rintro _ _ ⟨rfl, rfl⟩
  refine TL.val rfl rfl rfl (Y.not rfl rfl) ?_
  refine TL.nil ?_
  refine TQ.next ?_
  refine TC.cond_f rfl ?_
  refine TC.skip ?_
  refine TQ.next ?_
  refine TC.seq ?_
  refine TC.region ?_
  refine TL.val rfl rfl rfl (Y.assign rfl rfl) ?_
  refine TL.nil ?_
  refine TQ.next ?_
  refine TC.seq ?_
  refine TC.region ?_
  refine TL.val rfl rfl rfl (Y.assign rfl rfl) ?_
  refine TL.nil ?_
  refine TQ.next ?_
  refine TC.seq ?_
  refine TC.region ?_
  refine TL.val rfl rfl rfl (Y.move rfl rfl) ?_
  refine TL.val rfl rfl rfl (Y.move rfl rfl) ?_
  refine TL.val rfl rfl rfl (Y.move rfl rfl) ?_
  refine TL.eff rfl rfl rfl (X.cl rfl Try.func9 rfl (h := (Note_nil q now _))) ?_
  rintro _ _ rfl
  refine TL.nil ?_
  refine TQ.next ?_
  refine TC.seq ?_
  refine TC.region ?_
  refine TL.val rfl rfl rfl (Y.move rfl rfl) ?_
  refine TL.eff rfl rfl rfl (X.cl rfl Try.func11 rfl (h := (Feedback_nil 1 2 _))) ?_
  rintro _ _ ⟨rfl, rfl⟩
  refine TL.val rfl rfl rfl (Y.move rfl rfl) ?_
  refine TL.val rfl rfl rfl (Y.extract rfl rfl rfl) ?_
  refine TL.val rfl rfl rfl (Y.extract rfl rfl rfl) ?_
  refine TL.is false isf ?_
  refine TL.eff rfl rfl rfl (X.alloc rfl zc40) ?_
  rintro _ _ ⟨b7, rfl, rfl⟩
  refine TL.eff0 rfl rfl (by first | exact X.storeAll rfl sz40 (by rfl) rfl rfl (allOne (by rfl)) pul (by rfl) | exact X.storeAll rfl sz40 szz rfl rfl (by simp [Value.oneCell']) pul szz | exact X.storeAgg rfl sz40 szz rfl rfl (by simp [Value.oneCell']) pul szz (writeM (by ((try simp only [List.length_set, List.length_map, List.length_append, List.length_replicate]); omega)))) ?_
  rintro _ _ rfl
  refine TL.val rfl rfl rfl (Y.assign rfl rfl) ?_
  refine TL.nil ?_
  refine TQ.next ?_
  refine TC.seq ?_
  refine TC.region ?_
  refine TL.val rfl rfl rfl (Y.move rfl rfl) ?_
  refine TL.val rfl rfl rfl (Y.not rfl rfl) ?_
  refine TL.val rfl rfl rfl (Y.move rfl rfl) ?_
  refine TL.valG rfl rfl rfl (Y.move rfl rfl) ?_
  refine TL.effG rfl rfl rfl (X.cl rfl Try.func17 rfl (h := (Now_nil _))) ?_
  rintro _ _ ⟨rfl, rfl⟩
  refine TL.valG rfl rfl rfl (Y.bin rfl rfl rfl (br_eqI (n := 0))) ?_
  refine TL.is true isf ?_
  refine TL.val rfl rfl rfl (Y.pick_t rfl rfl rfl) ?_
  refine TL.val rfl rfl rfl (Y.move rfl rfl) ?_
  refine TL.valG rfl rfl rfl (Y.move rfl rfl) ?_
  refine TL.valG rfl rfl rfl (Y.buildS (cells := PK 0 0 0 0 0 0 (.slice none 0 0)) rfl rfl pl40 zc40 (by kernel_rfl)) ?_
  refine TL.effG rfl rfl rfl (X.cl rfl Try.func18 rfl (h := (Update_nil _))) ?_
  rintro _ _ ⟨rfl, rfl⟩
  refine TL.valG rfl rfl rfl (Y.bin rfl rfl rfl (br_eqI (n := 0))) ?_
  refine TL.is true isf ?_
  refine TL.val rfl rfl rfl (Y.pick_t rfl rfl rfl) ?_
  refine TL.is true isf ?_
  refine TL.val rfl rfl rfl (Y.assign rfl rfl) ?_
  refine TL.nil ?_
  refine TQ.next ?_
  refine TC.ret ?_
  refine TQ.retE (res1 rfl rfl) (⟨rfl, rfl⟩) ?_
  exact ett
abbrev Cm := UInt16 × (Int × Bool)
set_option maxHeartbeats 1000000 in
theorem feeds_fn (a : Option Addr) (cap : Nat) (ls : List Cm) (s m : UInt32) (L : List SA) :
    Fn Try.prog 3 [.slice a ls.length cap, v32 s, v32 m] (SA.dat (⟨a, cap, ls⟩ : Sl Cm) :: L) (fun v L' => v = .bool true ∧ L' = SA.dat (⟨a, cap, ls⟩ : Sl Cm) :: L) := by
  refine Fn.of (N := 85) Try.func3 rfl rfl ?_
  intro Xh
  refine TC.seq ?_
  refine TC.region ?_
  refine TL.val rfl rfl rfl (Y.assign rfl rfl) ?_
  refine TL.nil ?_
  refine TQ.next ?_
  refine TC.seq ?_
  refine TC.seq ?_
  refine TC.region ?_
  refine TL.eff rfl rfl rfl (X.cl rfl Try.func6 rfl (h := (tw.awake_fn _))) ?_
  rintro _ _ ⟨rfl, rfl⟩
  refine TL.val rfl rfl rfl (Y.not rfl rfl) ?_
  refine TL.nil ?_
  refine TQ.next ?_
  refine TC.cond_f rfl ?_
  refine TC.skip ?_
  refine TQ.next ?_
  refine TC.seq ?_
  refine TC.region ?_
  refine TL.eff rfl rfl rfl (X.cl rfl Try.func7 rfl (h := (tw.New_fn _))) ?_
  rintro _ _ ⟨r16, rg16, rfl, rfl⟩
  refine TL.eff rfl rfl rfl (X.cl rfl Try.func8 rfl (h := (tw.rNew_fn _))) ?_
  rintro _ _ ⟨r17, rfl, rfl⟩
  refine TL.val rfl rfl rfl (Y.assign rfl rfl) ?_
  refine TL.val rfl rfl rfl (Y.assign rfl rfl) ?_
  refine TL.nil ?_
  refine TQ.next ?_
  refine TC.seq ?_
  refine TC.seq ?_
  refine TC.region ?_
  refine TL.val rfl rfl rfl (Y.move rfl rfl) ?_
  refine TL.val rfl rfl rfl (Y.len rfl Try.underlying22 rfl) ?_
  refine TL.val rfl rfl rfl (Y.move rfl rfl) ?_
  refine TL.nil ?_
  refine TQ.next ?_
  refine TC.block ?_
  refine TC.know (dat_cap (a := a) inn) ?_
  rintro ⟨hc1, hc2, -⟩
  try simp only [maxLen] at hc2
  refine TC.loopF (ι := Nat × Nat × List AR × UInt8 × Option Addr × Nat) [6] (fun i => i.1 ≤ ls.length ∧ i.2.2.1.length ≤ 64 ∧ Ok i.2.2.1) (fun i => [(20, some (vN i.1))]) (fun i => [SA.blk r16 #[pt i.2.1 0, v8 i.2.2.2.1] 69, rga.RG i.2.1 64 i.2.2.1, SA.blk r17 #[.slice i.2.2.2.2.1 i.2.2.1.length i.2.2.2.2.2, v8 i.2.2.2.1] 72, SA.owns 79 2 (.slice i.2.2.2.2.1 i.2.2.1.length i.2.2.2.2.2) i.2.2.1.length (Dat.cs i.2.2.1)]) (fun i => ls.length - i.1) ((0, rg16, [], 0, none, 0)) (⟨Nat.zero_le _, Nat.zero_le _, fun _ h => by cases h⟩) ⟨rfl, trivial⟩ (Pulls.cons pul (Pulls.cons pul (Pulls.cons pul (Pulls.cons pul Pulls.nil)))) ?_
  rintro ⟨k, g, l, cnt, la, lc⟩ ⟨hk, hl, hok⟩ F' L' rfl hL'
  simp only [List.cons_append, List.nil_append] at hL'
  subst hL'
  simp only at hk hl hok ⊢
  obtain ⟨kk, ps, pm, pb, pr, pc, hPK⟩ := pkOf_PK s m cnt l
  refine TC.seq ?_
  refine TC.region ?_
  refine TL.val rfl rfl rfl (Y.bin rfl rfl rfl (br_ltN)) ?_
  refine TL.nil ?_
  refine TQ.next ?_
  refine TC.seq ?_
  refine TC.cond rfl (fun c1 => ?_) (fun c1 => ?_)
  · try simp only [decide_eq_true_eq, decide_eq_false_iff_not, Bool.not_eq_true', Bool.not_eq_false', Bool.and_eq_true, Bool.or_eq_true, Nat.not_lt, Nat.not_le, beq_iff_eq, bne_iff_ne] at c1
    refine TC.skip ?_
    refine TQ.next ?_
    refine TC.seq ?_
    refine TC.block ?_
    refine TC.seq ?_
    refine TC.region ?_
    refine TL.val rfl rfl rfl (Y.move rfl rfl) ?_
    refine TL.val rfl rfl rfl (Y.assign rfl rfl) ?_
    refine TL.nil ?_
    refine TQ.next ?_
    refine TC.seq ?_
    refine TC.seq ?_
    refine TC.know (dat_some (a := a) inn (by omega)) ?_
    rintro ⟨ga, off, rfl⟩
    obtain ⟨x, hx, -⟩ := getS (l := ls) (i := k) (by omega)
    obtain ⟨xq, xn, xk⟩ := x
    refine TC.region ?_
    refine TL.val rfl rfl rfl (Y.move rfl rfl) ?_
    refine TL.val rfl rfl rfl (Y.move rfl rfl) ?_
    refine TL.val rfl rfl rfl (by first | exact Y.indexSlB rfl sl22 rfl rfl (by omega) nqq | exact Y.indexSl rfl sl22 rfl rfl (by omega) nqq) ?_
    refine TL.val rfl rfl rfl (by first | exact Y.fieldAddrJ rfl fo31_2 rfl nqq | exact Y.fieldAddr rfl fo31_2 rfl nqq) ?_
    refine TL.val rfl rfl rfl (Y.load rfl sc4 rfl celD) ?_
    refine TL.as (.bool xk) (by rfl) ?_
    refine TL.val rfl rfl rfl (Y.not rfl rfl) ?_
    refine TL.val rfl rfl rfl (Y.move rfl rfl) ?_
    refine TL.case (fun g7_6 => ?_) (fun g7_6 => ?_)
    · try simp only [decide_eq_true_eq, decide_eq_false_iff_not, Bool.not_eq_true', Bool.not_eq_false', Nat.not_lt, Nat.not_le, beq_iff_eq, bne_iff_ne] at g7_6
      refine TL.valG rfl rfl rfl (Y.move rfl rfl) ?_
      refine TL.valG rfl rfl rfl (Y.bin rfl rfl rfl (br_addN (n := 1) (by omega))) ?_
      refine TL.valG rfl rfl rfl (Y.move rfl rfl) ?_
      refine TL.valG rfl rfl rfl (Y.len rfl Try.underlying22 rfl) ?_
      refine TL.valG rfl rfl rfl (Y.bin rfl rfl rfl (br_ltN)) ?_
      refine TL.val rfl rfl rfl (Y.pick_t rfl rfl rfl) ?_
      refine TL.nil ?_
      refine TQ.next ?_
      refine TC.cond rfl (fun c2 => ?_) (fun c2 => ?_)
      · try simp only [decide_eq_true_eq, decide_eq_false_iff_not, Bool.not_eq_true', Bool.not_eq_false', Bool.and_eq_true, Bool.or_eq_true, Nat.not_lt, Nat.not_le, beq_iff_eq, bne_iff_ne] at c2
        refine TC.seq ?_
        refine TC.draws 11 _ (by kernel_rfl) (by kernel_rfl) (fun _ h => h) ?_
        refine TA.tk 0 rfl rfl (Y.move rfl rfl) ?_
        refine TA.tp 1 rfl rfl (Y.move rfl rfl) ?_
        refine TA.tp 2 rfl rfl (Y.move rfl rfl) ?_
        refine TA.tp 3 rfl rfl (by first | exact Y.indexSlB rfl sl22 rfl rfl (by omega) nqq | exact Y.indexSl rfl sl22 rfl rfl (by omega) nqq) ?_
        refine TA.tp 4 rfl rfl (by first | exact Y.fieldAddrJ rfl fo31_0 rfl nqq | exact Y.fieldAddr rfl fo31_0 rfl nqq) ?_
        refine TA.tk 5 rfl rfl (Y.load rfl sc29 rfl cel16) ?_
        refine TA.as (v16 xq) (by rfl) ?_
        refine TA.tp 6 rfl rfl (Y.move rfl rfl) ?_
        refine TA.tp 7 rfl rfl (Y.move rfl rfl) ?_
        refine TA.tp 8 rfl rfl (by first | exact Y.indexSlB rfl sl22 rfl rfl (by omega) nqq | exact Y.indexSl rfl sl22 rfl rfl (by omega) nqq) ?_
        refine TA.tp 9 rfl rfl (by first | exact Y.fieldAddrJ rfl fo31_1 rfl nqq | exact Y.fieldAddr rfl fo31_1 rfl nqq) ?_
        refine TA.tk 10 rfl rfl (Y.load rfl sc2 rfl celN) ?_
        refine TA.as (vI xn) (by rfl) ?_
        refine TA.one 11 (by kernel_rfl) rfl rfl rfl rfl (X.cl rfl Try.func9 rfl (h := (tw.Note_fn _ _ _ l xq xn (by omega) _))) ?_
        rintro _ _ rfl
        refine ⟨(Or.inl (by kernel_rfl)), ?_⟩
        refine TA.done (by kernel_rfl) ?_
        refine TQ.next ?_
        refine TC.seq ?_
        refine TC.draws 11 _ (by kernel_rfl) (by kernel_rfl) (fun _ h => h) ?_
        refine TA.tk 0 rfl rfl (Y.move rfl rfl) ?_
        refine TA.tp 1 rfl rfl (Y.move rfl rfl) ?_
        refine TA.tp 2 rfl rfl (Y.move rfl rfl) ?_
        refine TA.tp 3 rfl rfl (by first | exact Y.indexSlB rfl sl22 rfl rfl (by omega) nqq | exact Y.indexSl rfl sl22 rfl rfl (by omega) nqq) ?_
        refine TA.tp 4 rfl rfl (by first | exact Y.fieldAddrJ rfl fo31_0 rfl nqq | exact Y.fieldAddr rfl fo31_0 rfl nqq) ?_
        refine TA.tk 5 rfl rfl (Y.load rfl sc29 rfl cel16) ?_
        refine TA.as (v16 xq) (by rfl) ?_
        refine TA.tp 6 rfl rfl (Y.move rfl rfl) ?_
        refine TA.tp 7 rfl rfl (Y.move rfl rfl) ?_
        refine TA.tp 8 rfl rfl (by first | exact Y.indexSlB rfl sl22 rfl rfl (by omega) nqq | exact Y.indexSl rfl sl22 rfl rfl (by omega) nqq) ?_
        refine TA.tp 9 rfl rfl (by first | exact Y.fieldAddrJ rfl fo31_1 rfl nqq | exact Y.fieldAddr rfl fo31_1 rfl nqq) ?_
        refine TA.tk 10 rfl rfl (Y.load rfl sc2 rfl celN) ?_
        refine TA.as (vI xn) (by rfl) ?_
        refine TA.one 11 (by kernel_rfl) rfl rfl rfl rfl (X.cl rfl Try.func10 rfl (h := (tw.rNote_fn _ _ _ _ l xq xn (by omega) _))) ?_
        rintro _ _ ⟨a59, c59, rfl⟩
        refine ⟨(Or.inl (by kernel_rfl)), ?_⟩
        refine TA.done (by kernel_rfl) ?_
        refine TQ.next ?_
        refine TC.exit ?_
        refine TQ.then_exit ?_
        refine TQ.block_exit ?_
        refine TQ.next ?_
        refine TC.region ?_
        refine TL.val rfl rfl rfl (Y.bin rfl rfl rfl (br_addN (n := 1) (by omega))) ?_
        refine TL.val rfl rfl rfl (Y.move rfl rfl) ?_
        refine TL.nil ?_
        refine TQ.loopF ((by first | exact (k + 1, g, nt l xq xn, cnt, a59, c59) | exact (k + 1, g64, [], cn cnt l, la71, lc71))) ((by first | exact ⟨by simp only; omega, nt_len hl _ _, nt_ok hok _ _⟩ | exact ⟨by simp only; omega, Nat.zero_le _, fun _ h => by cases h⟩)) (by simp only; omega) ⟨rfl, trivial⟩ grw ?_ ?_ ?_
        · kernel_rfl
        · rfl
        · simp only [List.cons_append, List.nil_append]
          exact ett
      · try simp only [decide_eq_true_eq, decide_eq_false_iff_not, Bool.not_eq_true', Bool.not_eq_false', Bool.and_eq_true, Bool.or_eq_true, Nat.not_lt, Nat.not_le, beq_iff_eq, bne_iff_ne] at c2
        refine TC.skip ?_
        refine TQ.next ?_
        refine TC.seq ?_
        refine TC.region ?_
        refine TL.val rfl rfl rfl (Y.move rfl rfl) ?_
        refine TL.val rfl rfl rfl (Y.move rfl rfl) ?_
        refine TL.val rfl rfl rfl (Y.move rfl rfl) ?_
        refine TL.eff rfl rfl rfl (X.cl rfl Try.func11 rfl (h := (tw.Feedback_fn _ _ _ _ _ _ (by omega) (by assumption) _))) ?_
        rintro _ _ ⟨a64, c64, g64, rfl, rfl⟩
        rw [hPK]
        refine TL.val rfl rfl rfl (Y.move rfl rfl) ?_
        refine TL.val rfl rfl rfl (Y.extract rfl rfl rfl) ?_
        refine TL.val rfl rfl rfl (Y.extract rfl rfl rfl) ?_
        refine TL.eff rfl rfl rfl (X.alloc rfl zc40) ?_
        rintro _ _ ⟨b10, rfl, rfl⟩
        refine TL.eff0 rfl rfl (by first | exact X.storeAll rfl sz40 (by rfl) rfl rfl (allOne (by rfl)) pul (by rfl) | exact X.storeAll rfl sz40 szz rfl rfl (by simp [Value.oneCell']) pul szz | exact X.storeAgg rfl sz40 szz rfl rfl (by simp [Value.oneCell']) pul szz (writeM (by ((try simp only [List.length_set, List.length_map, List.length_append, List.length_replicate]); omega)))) ?_
        rintro _ _ rfl
        refine TL.val rfl rfl rfl (Y.assign rfl rfl) ?_
        refine TL.nil ?_
        refine TQ.next ?_
        refine TC.seq ?_
        refine TC.region ?_
        refine TL.val rfl rfl rfl (Y.move rfl rfl) ?_
        refine TL.val rfl rfl rfl (Y.move rfl rfl) ?_
        refine TL.val rfl rfl rfl (Y.move rfl rfl) ?_
        refine TL.eff rfl rfl rfl (X.cl rfl Try.func12 rfl (h := (tw.rFeedback_fn _ _ _ _ _ _ _ (by omega) (by assumption) _))) ?_
        rintro _ _ ⟨a71, c71, la71, lc71, rfl, rfl⟩
        rw [hPK]
        refine TL.val rfl rfl rfl (Y.move rfl rfl) ?_
        refine TL.val rfl rfl rfl (Y.extract rfl rfl rfl) ?_
        refine TL.val rfl rfl rfl (Y.extract rfl rfl rfl) ?_
        refine TL.eff rfl rfl rfl (X.alloc rfl zc46) ?_
        rintro _ _ ⟨b12, rfl, rfl⟩
        refine TL.eff0 rfl rfl (by first | exact X.storeAll rfl sz46 (by rfl) rfl rfl (allOne (by rfl)) pul (by rfl) | exact X.storeAll rfl sz46 szz rfl rfl (by simp [Value.oneCell']) pul szz | exact X.storeAgg rfl sz46 szz rfl rfl (by simp [Value.oneCell']) pul szz (writeM (by ((try simp only [List.length_set, List.length_map, List.length_append, List.length_replicate]); omega)))) ?_
        rintro _ _ rfl
        refine TL.val rfl rfl rfl (Y.assign rfl rfl) ?_
        refine TL.nil ?_
        refine TQ.next ?_
        refine TC.seq ?_
        refine TC.draws 7 [SA.blk b10 (PK kk ps pm pb pr pc (.slice a64 (al l).length c64)) 40, SA.blk b12 (PK kk ps pm pb pr pc (.slice a71 (al l).length c71)) 46] (by kernel_rfl) (by kernel_rfl) hld ?_
        refine TA.tp 0 rfl rfl (Y.move rfl rfl) ?_
        refine TA.tp 1 rfl rfl (Y.move rfl rfl) ?_
        refine TA.tp 2 rfl rfl (Y.neBool rfl Try.underlying4 rfl rfl) ?_
        refine TA.is false (by (simp)) ?_
        refine TA.tk 3 rfl rfl (Y.move rfl rfl) ?_
        refine TA.tk 6 rfl rfl (Y.loadAgg rfl ag46 rfl (Cels.all inn) (by first | rfl | ((try simp only [List.length_map, List.length_set, List.length_replicate]); omega))) ?_
        refine TA.as (.agg (PK kk ps pm pb pr pc (.slice a71 (al l).length c71))) (by rfl) ?_
        refine TA.one 4 (by kernel_rfl) rfl rfl rfl rfl (Eff.val (fun _ h => by cases h) (Y.loadAgg rfl ag40 rfl (Cels.all inn) (by first | rfl | ((try simp only [List.length_map, List.length_set, List.length_replicate]); omega)))) ?_
        rintro _ _ ⟨rfl, rfl⟩
        refine ⟨Or.inr hld, ?_⟩
        refine TA.as (.agg (PK kk ps pm pb pr pc (.slice a64 (al l).length c64))) (by rfl) ?_
        refine TA.one 5 (by kernel_rfl) rfl rfl rfl rfl (X.cl rfl Try.func14 rfl (h := (tw.ours_fn _ _ _ _ _ _ _ _ _ _))) ?_
        rintro _ _ ⟨rfl, rfl⟩
        refine ⟨(Or.inr hld), ?_⟩
        refine TA.one 7 (by kernel_rfl) rfl rfl rfl rfl (X.cl rfl Try.func13 rfl (h := (tw.same_fn _ _ _ _ _ _ _ _ _ _ _ _))) ?_
        rintro _ _ ⟨rfl, rfl⟩
        refine ⟨(Or.inl (by kernel_rfl)), ?_⟩
        refine TA.tp 8 rfl rfl (Y.not rfl rfl) ?_
        refine TA.tp 9 rfl rfl (Y.pick_f rfl rfl rfl) ?_
        refine TA.done (by kernel_rfl) ?_
        refine TQ.next ?_
        refine TC.cond_f rfl ?_
        refine TC.skip ?_
        refine TQ.block_normal ?_
        refine TQ.next ?_
        refine TC.region ?_
        refine TL.val rfl rfl rfl (Y.bin rfl rfl rfl (br_addN (n := 1) (by omega))) ?_
        refine TL.val rfl rfl rfl (Y.move rfl rfl) ?_
        refine TL.nil ?_
        refine TQ.loopF ((by first | exact (k + 1, g, nt l xq xn, cnt, a59, c59) | exact (k + 1, g64, [], cn cnt l, la71, lc71))) ((by first | exact ⟨by simp only; omega, nt_len hl _ _, nt_ok hok _ _⟩ | exact ⟨by simp only; omega, Nat.zero_le _, fun _ h => by cases h⟩)) (by simp only; omega) ⟨rfl, trivial⟩ grw ?_ ?_ ?_
        · kernel_rfl
        · rfl
        · simp only [List.cons_append, List.nil_append]
          exact ett
    · try simp only [decide_eq_true_eq, decide_eq_false_iff_not, Bool.not_eq_true', Bool.not_eq_false', Nat.not_lt, Nat.not_le, beq_iff_eq, bne_iff_ne] at g7_6
      refine TL.not rfl rfl rfl ?_
      refine TL.not rfl rfl rfl ?_
      refine TL.not rfl rfl rfl ?_
      refine TL.not rfl rfl rfl ?_
      refine TL.not rfl rfl rfl ?_
      refine TL.val rfl rfl rfl (Y.pick_f rfl rfl rfl) ?_
      refine TL.nil ?_
      refine TQ.next ?_
      refine TC.cond_f rfl ?_
      refine TC.skip ?_
      refine TQ.next ?_
      refine TC.seq ?_
      refine TC.region ?_
      refine TL.val rfl rfl rfl (Y.move rfl rfl) ?_
      refine TL.val rfl rfl rfl (Y.move rfl rfl) ?_
      refine TL.val rfl rfl rfl (Y.move rfl rfl) ?_
      refine TL.eff rfl rfl rfl (X.cl rfl Try.func11 rfl (h := (tw.Feedback_fn _ _ _ _ _ _ (by omega) (by assumption) _))) ?_
      rintro _ _ ⟨a64, c64, g64, rfl, rfl⟩
      rw [hPK]
      refine TL.val rfl rfl rfl (Y.move rfl rfl) ?_
      refine TL.val rfl rfl rfl (Y.extract rfl rfl rfl) ?_
      refine TL.val rfl rfl rfl (Y.extract rfl rfl rfl) ?_
      refine TL.eff rfl rfl rfl (X.alloc rfl zc40) ?_
      rintro _ _ ⟨b10, rfl, rfl⟩
      refine TL.eff0 rfl rfl (by first | exact X.storeAll rfl sz40 (by rfl) rfl rfl (allOne (by rfl)) pul (by rfl) | exact X.storeAll rfl sz40 szz rfl rfl (by simp [Value.oneCell']) pul szz | exact X.storeAgg rfl sz40 szz rfl rfl (by simp [Value.oneCell']) pul szz (writeM (by ((try simp only [List.length_set, List.length_map, List.length_append, List.length_replicate]); omega)))) ?_
      rintro _ _ rfl
      refine TL.val rfl rfl rfl (Y.assign rfl rfl) ?_
      refine TL.nil ?_
      refine TQ.next ?_
      refine TC.seq ?_
      refine TC.region ?_
      refine TL.val rfl rfl rfl (Y.move rfl rfl) ?_
      refine TL.val rfl rfl rfl (Y.move rfl rfl) ?_
      refine TL.val rfl rfl rfl (Y.move rfl rfl) ?_
      refine TL.eff rfl rfl rfl (X.cl rfl Try.func12 rfl (h := (tw.rFeedback_fn _ _ _ _ _ _ _ (by omega) (by assumption) _))) ?_
      rintro _ _ ⟨a71, c71, la71, lc71, rfl, rfl⟩
      rw [hPK]
      refine TL.val rfl rfl rfl (Y.move rfl rfl) ?_
      refine TL.val rfl rfl rfl (Y.extract rfl rfl rfl) ?_
      refine TL.val rfl rfl rfl (Y.extract rfl rfl rfl) ?_
      refine TL.eff rfl rfl rfl (X.alloc rfl zc46) ?_
      rintro _ _ ⟨b12, rfl, rfl⟩
      refine TL.eff0 rfl rfl (by first | exact X.storeAll rfl sz46 (by rfl) rfl rfl (allOne (by rfl)) pul (by rfl) | exact X.storeAll rfl sz46 szz rfl rfl (by simp [Value.oneCell']) pul szz | exact X.storeAgg rfl sz46 szz rfl rfl (by simp [Value.oneCell']) pul szz (writeM (by ((try simp only [List.length_set, List.length_map, List.length_append, List.length_replicate]); omega)))) ?_
      rintro _ _ rfl
      refine TL.val rfl rfl rfl (Y.assign rfl rfl) ?_
      refine TL.nil ?_
      refine TQ.next ?_
      refine TC.seq ?_
      refine TC.draws 7 [SA.blk b10 (PK kk ps pm pb pr pc (.slice a64 (al l).length c64)) 40, SA.blk b12 (PK kk ps pm pb pr pc (.slice a71 (al l).length c71)) 46] (by kernel_rfl) (by kernel_rfl) hld ?_
      refine TA.tp 0 rfl rfl (Y.move rfl rfl) ?_
      refine TA.tp 1 rfl rfl (Y.move rfl rfl) ?_
      refine TA.tp 2 rfl rfl (Y.neBool rfl Try.underlying4 rfl rfl) ?_
      refine TA.is false (by (simp)) ?_
      refine TA.tk 3 rfl rfl (Y.move rfl rfl) ?_
      refine TA.tk 6 rfl rfl (Y.loadAgg rfl ag46 rfl (Cels.all inn) (by first | rfl | ((try simp only [List.length_map, List.length_set, List.length_replicate]); omega))) ?_
      refine TA.as (.agg (PK kk ps pm pb pr pc (.slice a71 (al l).length c71))) (by rfl) ?_
      refine TA.one 4 (by kernel_rfl) rfl rfl rfl rfl (Eff.val (fun _ h => by cases h) (Y.loadAgg rfl ag40 rfl (Cels.all inn) (by first | rfl | ((try simp only [List.length_map, List.length_set, List.length_replicate]); omega)))) ?_
      rintro _ _ ⟨rfl, rfl⟩
      refine ⟨Or.inr hld, ?_⟩
      refine TA.as (.agg (PK kk ps pm pb pr pc (.slice a64 (al l).length c64))) (by rfl) ?_
      refine TA.one 5 (by kernel_rfl) rfl rfl rfl rfl (X.cl rfl Try.func14 rfl (h := (tw.ours_fn _ _ _ _ _ _ _ _ _ _))) ?_
      rintro _ _ ⟨rfl, rfl⟩
      refine ⟨(Or.inr hld), ?_⟩
      refine TA.one 7 (by kernel_rfl) rfl rfl rfl rfl (X.cl rfl Try.func13 rfl (h := (tw.same_fn _ _ _ _ _ _ _ _ _ _ _ _))) ?_
      rintro _ _ ⟨rfl, rfl⟩
      refine ⟨(Or.inl (by kernel_rfl)), ?_⟩
      refine TA.tp 8 rfl rfl (Y.not rfl rfl) ?_
      refine TA.tp 9 rfl rfl (Y.pick_f rfl rfl rfl) ?_
      refine TA.done (by kernel_rfl) ?_
      refine TQ.next ?_
      refine TC.cond_f rfl ?_
      refine TC.skip ?_
      refine TQ.block_normal ?_
      refine TQ.next ?_
      refine TC.region ?_
      refine TL.val rfl rfl rfl (Y.bin rfl rfl rfl (br_addN (n := 1) (by omega))) ?_
      refine TL.val rfl rfl rfl (Y.move rfl rfl) ?_
      refine TL.nil ?_
      refine TQ.loopF ((by first | exact (k + 1, g, nt l xq xn, cnt, a59, c59) | exact (k + 1, g64, [], cn cnt l, la71, lc71))) ((by first | exact ⟨by simp only; omega, nt_len hl _ _, nt_ok hok _ _⟩ | exact ⟨by simp only; omega, Nat.zero_le _, fun _ h => by cases h⟩)) (by simp only; omega) ⟨rfl, trivial⟩ grw ?_ ?_ ?_
      · kernel_rfl
      · rfl
      · simp only [List.cons_append, List.nil_append]
        exact ett
  · try simp only [decide_eq_true_eq, decide_eq_false_iff_not, Bool.not_eq_true', Bool.not_eq_false', Bool.and_eq_true, Bool.or_eq_true, Nat.not_lt, Nat.not_le, beq_iff_eq, bne_iff_ne] at c1
    refine TC.exit ?_
    refine TQ.then_exit ?_
    refine TQ.then_exit ?_
    refine TQ.block_exit ?_
    refine TQ.next ?_
    refine TC.seq ?_
    refine TC.region ?_
    refine TL.val rfl rfl rfl (Y.assign rfl rfl) ?_
    refine TL.nil ?_
    refine TQ.next ?_
    refine TC.ret ?_
    refine TQ.retE (res1 rfl rfl) (⟨rfl, rfl⟩) ?_
    exact ett
end tw
end Go.Proofs.Ythamkpjiecigjaa

/- The document's bytes: Two, Four, Join, Number. -/
namespace Go.Proofs.Ythamkpjiecigjaa
set_option linter.unusedVariables false
set_option linter.unusedSimpArgs false
open Go.RowKit
namespace r1
namespace FxRef01
set_option maxRecDepth 100000
theorem el52 : Elt Try.prog 52 5 1 1 (.int .u8 0) := ⟨Try.underlying52, by kernel_rfl, rfl, by decide, by simp [Value.cells, Value.oneCell']⟩
theorem sc52 : Program.isSc Try.prog 52 = true := by kernel_rfl
theorem sl112 : Program.slI Try.prog 112 = some 1 := by kernel_rfl
end FxRef01
open FxRef01
def be2 (n : Nat) : List UInt8 := [UInt8.ofNat (n / 256), UInt8.ofNat n]
def be4 (x : UInt32) : List UInt8 := [(shr32 x 24).toUInt8, (shr32 x 16).toUInt8, (shr32 x 8).toUInt8, x.toUInt8]
theorem be2_len (n : Nat) : (be2 n).length = 2 := rfl
theorem be4_len (x : UInt32) : (be4 x).length = 4 := rfl
--REG rostrum/rostrumref01.Two : _ _ ⟨g{d}, rfl, rfl⟩ => (r1.Two_fn {0} (by omega) _)
theorem Two_fn (n : Nat) (hn : n < 4294967296) (L : List SA) : Fn Try.prog 40 [vN n] L (fun v L' => ∃ g, v = .slice (some ⟨g, 0, none⟩) 2 2 ∧ L' = SA.owns 5 1 (.slice (some ⟨g, 0, none⟩) 2 2) 2 ((be2 n).map v8) :: L) := by
  refine Fn.of (N := 9) Try.func40 rfl rfl ?_
  intro Xh
  refine TC.seq ?_
  refine TC.region ?_
  refine TL.val rfl rfl rfl (Y.assign rfl rfl) ?_
  refine TL.nil ?_
  refine TQ.next ?_
  refine TC.seq ?_
  refine TC.region ?_
  refine TL.val rfl rfl rfl (Y.move rfl rfl) ?_
  refine TL.val rfl rfl rfl (Y.bin rfl rfl rfl (br_shrN (n := 8) (c := 256) rfl (by omega))) ?_
  refine TL.val rfl rfl rfl (Y.conv rfl Try.underlying3 Try.underlying5 rfl (cv_N_8)) ?_
  refine TL.val rfl rfl rfl (Y.move rfl rfl) ?_
  refine TL.val rfl rfl rfl (Y.conv rfl Try.underlying3 Try.underlying5 rfl (cv_N_8)) ?_
  refine TL.eff rfl rfl rfl (X.lit rfl el52 rfl rfl rfl (by decide) rfl) ?_
  rintro _ _ ⟨g8, rfl, rfl⟩
  refine TL.val rfl rfl rfl (Y.assign rfl rfl) ?_
  refine TL.nil ?_
  refine TQ.next ?_
  refine TC.ret ?_
  refine TQ.retE (res1 rfl rfl) (⟨g8, rfl, rfl⟩) ?_
  exact ett
--REG rostrum/rostrumref01.Four : _ _ ⟨g{d}, rfl, rfl⟩ => (r1.Four_fn {0} _)
theorem Four_fn (x : UInt32) (L : List SA) : Fn Try.prog 44 [v32 x] L (fun v L' => ∃ g, v = .slice (some ⟨g, 0, none⟩) 4 4 ∧ L' = SA.owns 5 1 (.slice (some ⟨g, 0, none⟩) 4 4) 4 ((be4 x).map v8) :: L) := by
  refine Fn.of (N := 15) Try.func44 rfl rfl ?_
  intro Xh
  refine TC.seq ?_
  refine TC.region ?_
  refine TL.val rfl rfl rfl (Y.assign rfl rfl) ?_
  refine TL.nil ?_
  refine TQ.next ?_
  refine TC.seq ?_
  refine TC.region ?_
  refine TL.val rfl rfl rfl (Y.move rfl rfl) ?_
  refine TL.val rfl rfl rfl (Y.bin rfl rfl rfl (br_shr32 (n := 24))) ?_
  refine TL.val rfl rfl rfl (Y.conv rfl Try.underlying23 Try.underlying5 rfl (cv_32_8)) ?_
  refine TL.val rfl rfl rfl (Y.move rfl rfl) ?_
  refine TL.val rfl rfl rfl (Y.bin rfl rfl rfl (br_shr32 (n := 16))) ?_
  refine TL.val rfl rfl rfl (Y.conv rfl Try.underlying23 Try.underlying5 rfl (cv_32_8)) ?_
  refine TL.val rfl rfl rfl (Y.move rfl rfl) ?_
  refine TL.val rfl rfl rfl (Y.bin rfl rfl rfl (br_shr32 (n := 8))) ?_
  refine TL.val rfl rfl rfl (Y.conv rfl Try.underlying23 Try.underlying5 rfl (cv_32_8)) ?_
  refine TL.val rfl rfl rfl (Y.move rfl rfl) ?_
  refine TL.val rfl rfl rfl (Y.conv rfl Try.underlying23 Try.underlying5 rfl (cv_32_8)) ?_
  refine TL.eff rfl rfl rfl (X.lit rfl el52 rfl rfl rfl (by decide) rfl) ?_
  rintro _ _ ⟨g14, rfl, rfl⟩
  refine TL.val rfl rfl rfl (Y.assign rfl rfl) ?_
  refine TL.nil ?_
  refine TQ.next ?_
  refine TC.ret ?_
  refine TQ.retE (res1 rfl rfl) (⟨g14, rfl, rfl⟩) ?_
  exact ett
def flat (ps : List Bs) : List UInt8 := ps.flatMap (·.l)
theorem flat_s (ps : List Bs) (k : Nat) (x : Bs) (h : ps[k]? = some x) : flat (ps.take (k + 1)) = flat (ps.take k) ++ x.l := by
  rw [List.take_add_one, h]; simp [flat]
theorem flat_le (ps : List Bs) (k : Nat) : (flat (ps.take k)).length ≤ (flat ps).length := by
  have : flat ps = flat (ps.take k) ++ flat (ps.drop k) := by rw [flat, flat, flat, ← List.flatMap_append, List.take_append_drop]
  rw [this, List.length_append]; omega
--REG rostrum/rostrumref01.Join : _ _ ⟨a{d}, c{d}, rfl, rfl⟩ => (r1.Join_fn _ _ _ (by omega) _)
theorem Join_fn (a : Option Addr) (cap : Nat) (ps : List Bs) (hl : (flat ps).length ≤ 140737488351232) (L : List SA) :
    Fn Try.prog 36 [.slice a ps.length cap] (SA.dat (⟨a, cap, ps⟩ : Sl Bs) :: L) (fun v L' => ∃ a' c', v = .slice a' (flat ps).length c' ∧ L' = SA.owns 5 1 (.slice a' (flat ps).length c') (flat ps).length ((flat ps).map v8) :: SA.dat (⟨a, cap, ps⟩ : Sl Bs) :: L) := by
  refine Fn.of (N := 18) Try.func36 rfl rfl ?_
  intro Xh
  refine TC.seq ?_
  refine TC.region ?_
  refine TL.val rfl rfl rfl (Y.assign rfl rfl) ?_
  refine TL.nil ?_
  refine TQ.next ?_
  refine TC.seq ?_
  refine TC.region ?_
  refine TL.val rfl rfl rfl (Y.assign rfl rfl) ?_
  refine TL.nil ?_
  refine TQ.next ?_
  refine TC.seq ?_
  refine TC.seq ?_
  refine TC.region ?_
  refine TL.val rfl rfl rfl (Y.move rfl rfl) ?_
  refine TL.val rfl rfl rfl (Y.len rfl Try.underlying112 rfl) ?_
  refine TL.val rfl rfl rfl (Y.move rfl rfl) ?_
  refine TL.nil ?_
  refine TQ.next ?_
  refine TC.block ?_
  refine TC.know (dat_cap (a := a) inn) ?_
  rintro ⟨hc1, hc2, -⟩
  refine TC.to (Ent.nilOwn 5 1) ?_
  refine TC.loopF (ι := Nat × Option Addr × Nat) [] (fun i => i.1 ≤ ps.length) (fun i => [(7, some (vN i.1)), (3, some (.slice i.2.1 (flat (ps.take i.1)).length i.2.2))]) (fun i => [SA.owns 5 1 (.slice i.2.1 (flat (ps.take i.1)).length i.2.2) (flat (ps.take i.1)).length ((flat (ps.take i.1)).map v8)]) (fun i => ps.length - i.1) ((0, none, 0)) (by omega) ⟨rfl, rfl, trivial⟩ (Pulls.cons pul Pulls.nil) ?_
  rintro ⟨k, b, c⟩ hk F' L' rfl hL'
  simp only [List.cons_append, List.nil_append] at hL'
  subst hL'
  simp only at hk ⊢
  refine TC.seq ?_
  refine TC.region ?_
  refine TL.val rfl rfl rfl (Y.bin rfl rfl rfl (br_ltN)) ?_
  refine TL.nil ?_
  refine TQ.next ?_
  refine TC.seq ?_
  refine TC.cond rfl (fun c0 => ?_) (fun c0 => ?_)
  · try simp only [decide_eq_true_eq, decide_eq_false_iff_not, Bool.not_eq_true', Bool.not_eq_false', Bool.and_eq_true, Bool.or_eq_true, Nat.not_lt, Nat.not_le, beq_iff_eq, bne_iff_ne] at c0
    refine TC.skip ?_
    refine TQ.next ?_
    refine TC.seq ?_
    refine TC.block ?_
    refine TC.seq ?_
    obtain ⟨x, hx, hxm⟩ := getS (l := ps) (i := k) (by omega)
    refine TC.know (dat_some (a := a) inn (by omega)) ?_
    rintro ⟨g, off, rfl⟩
    have hfs := flat_s ps k x hx
    have hfl := flat_le ps (k + 1)
    have hfe : (flat (ps.take (k + 1))).length = (flat (ps.take k)).length + x.l.length := by rw [hfs, List.length_append]
    refine TC.region ?_
    refine TL.val rfl rfl rfl (Y.move rfl rfl) ?_
    refine TL.val rfl rfl rfl (Y.assign rfl rfl) ?_
    refine TL.nil ?_
    refine TQ.next ?_
    refine TC.region ?_
    refine TL.val rfl rfl rfl (Y.move rfl rfl) ?_
    refine TL.val rfl rfl rfl (Y.move rfl rfl) ?_
    refine TL.val rfl rfl rfl (Y.move rfl rfl) ?_
    refine TL.val rfl rfl rfl (by first | exact Y.indexSlB rfl sl112 rfl rfl (by omega) nqq | exact Y.indexSl rfl sl112 rfl rfl (by omega) nqq) ?_
    refine TL.val rfl rfl rfl (Y.load rfl sc52 rfl celD) ?_
    refine TL.eff rfl rfl rfl (X.appendS rfl el52 rfl pul rfl (Src.reads (u := x.v) (n := x.l.length) (cs := x.l.map v8) (A := SA.dat (⟨some ⟨g, off, none⟩, cap, ps⟩ : Sl Bs)) (fun w O R h => (Reads.dat (s := x)) w O R (fun q hq => h q (List.mem_cons_of_mem _ (List.mem_flatMap.2 ⟨x, hxm, hq⟩)))) Try.underlying52 inn) (by simp only [maxLen]; omega) (by omega)) ?_
    rintro _ _ ⟨a15, c15, rfl, rfl⟩
    refine TL.val rfl rfl rfl (Y.assign rfl rfl) ?_
    refine TL.nil ?_
    refine TQ.block_normal ?_
    refine TQ.next ?_
    refine TC.region ?_
    refine TL.val rfl rfl rfl (Y.bin rfl rfl rfl (br_addN (n := 1) (by omega))) ?_
    refine TL.val rfl rfl rfl (Y.move rfl rfl) ?_
    refine TL.nil ?_
    rw [← hfe]
    refine TQ.loopF ((k + 1, a15, c15)) (by simp only; omega) (by simp only; omega) ⟨rfl, rfl, trivial⟩ grw ?_ ?_ ?_
    · kernel_rfl
    · rfl
    · simp only [List.cons_append, List.nil_append]
      exact (by rw [hfs, List.map_append]; exact ett)
  · try simp only [decide_eq_true_eq, decide_eq_false_iff_not, Bool.not_eq_true', Bool.not_eq_false', Bool.and_eq_true, Bool.or_eq_true, Nat.not_lt, Nat.not_le, beq_iff_eq, bne_iff_ne] at c0
    refine TC.exit ?_
    refine TQ.then_exit ?_
    refine TQ.then_exit ?_
    refine TQ.block_exit ?_
    refine TQ.next ?_
    refine TC.seq ?_
    obtain rfl : k = ps.length := by omega
    rw [List.take_length]
    refine TC.region ?_
    refine TL.val rfl rfl rfl (Y.move rfl rfl) ?_
    refine TL.val rfl rfl rfl (Y.assign rfl rfl) ?_
    refine TL.nil ?_
    refine TQ.next ?_
    refine TC.ret ?_
    refine TQ.retE (res1 rfl rfl) (⟨b, c, rfl, rfl⟩) ?_
    exact ett
end r1
end Go.Proofs.Ythamkpjiecigjaa

/- 'copy' into a slice of one's own; lending what is owned, piece by piece; more on pieces of bytes. No program is named. -/
namespace Go.Proofs.Ythamkpjiecigjaa
set_option linter.unusedVariables false
set_option linter.unusedSimpArgs false
open Go.RowKit
section
variable {P : Program} {N : Nat} {F : FE} {As L L0 : List SA} {o : Oper} {x y z : Operand} {u v : Value}
theorem X.copyOwn {dT sT e eo dn dc sz m n cap g off q j : Nat} {cs cs' news : List Value} (ho : o.op = .call { callee := .builtin .copy, args := #[x, y], argTypes := #[dT, sT] }) (hu : P.underlying dT = some (.slice e)) (hsz : (P.info? e).map (·.size) = some sz)
    (hx : evO F x = some (.slice (some ⟨g, q, none⟩) dn dc)) (hq : q = off + j) (hy : evO F y = some u) (hs : ∀ w, Holds L w → Src P sz sT u m news w) (hp : Pull (SA.owns eo sz (.slice (some ⟨g, off, none⟩) n cap) n cs) L L0) (hm : m ≤ dn) (hj : j + m * sz ≤ n * sz) (he : wr cs j news = cs') :
    Eff P N o F L (fun v L' => v = vN m ∧ L' = SA.owns eo sz (.slice (some ⟨g, off, none⟩) n cap) n cs' :: L0) := by
  refine ⟨by rw [ho]; simp, fun Y a w ha hw K Q hK => ?_⟩
  unfold Oper.wp execOp; rw [ho]
  subst he; subst hq
  replace hx := ha.eval hx
  replace hy := ha.eval hy
  have hst := (Pull.there (B := Y) hp).st hw
  have hO := hst.isOwn
  have hsrc := hs w hw.tl.holds
  obtain ⟨inf, hinf, rfl⟩ := Option.map_eq_some_iff.1 hsz
  have hc := hsrc.cells
  have hl := hsrc.newsLen
  obtain ⟨arr, hb, hsz⟩ : ∃ arr, Blk w g arr eo ∧ off + n * inf.size ≤ arr.size := by
    rcases hO.val with ⟨hv, _⟩ | ⟨g', off', cap', arr, hv, hb1, h2, _, e3, _⟩
    · cases hv
    · cases hv
      have := Nat.mul_le_mul_right inf.size h2
      exact ⟨arr, hb1, by omega⟩
  have hrun := run_storeCells_cells (P := P) g (off + j) news 0 w (fun i hi => by rw [hb.cell]; simp at hi ⊢; omega) (fun i hi => hb.frozen _) hsrc.one
  have hcp : (Builtin.copy_ #[dT, sT] o.type #[.slice (some ⟨g, off + j, none⟩) dn dc, u]).run P w = .ok (vN m) (w.setCells g (off + j) news) := by
    unfold Builtin.copy_
    have hmin : Nat.min m dn = m := Nat.min_eq_left hm
    simp only [Nat.add_zero] at hrun
    simp [run_underlying hu, hsrc.len, hmin, sizeOf, typeInfo, hinf, hc, hrun, goInt]
  have hfin := hO.within news hsrc.one j (by omega)
  generalize a.eval = ρ at hx hy ⊢
  simp [resolve, invoke, builtin, hx, hy, hcp, Result.andThen, Oper.upon]
  exact hK _ _ _ ⟨rfl, rfl⟩ (St.up1 (hst.frS (S := [g]) (Fr.setCells _ _ _ (Fr.refl _ _) (by simp)) fun O R hA => ⟨fun k hk => hA.1 k (by simpa [own] using hk), O, R, ⟨fun k hk => hA.1 k (by simpa [own] using hk), hfin⟩, fun k hk => .inl hk, fun k hk => .inr (.inl hk)⟩))
end
theorem cutV_some {g off cap k n sz : Nat} (h : k < cap) : cutV (some ⟨g, off, none⟩) cap k n sz = .slice (some ⟨g, off + k * sz, none⟩) (n - k) (cap - k) := by
  unfold cutV; rw [if_neg (by omega)]; simp [Addr.add_lit]
theorem wr_tail (a b c : List Value) (h : b.length = c.length) : wr (a ++ b) a.length c = a ++ c := by
  unfold wr; rw [List.take_left, ← h, ← List.length_append, List.drop_length, List.append_nil]
theorem Reads.head {A : SA} {sz n cap k : Nat} {a : Option Addr} {cs : List Value} (h : Reads A sz (.slice a n cap) n cs) (hk : k ≤ n) : Reads A sz (.slice a k cap) k (cs.take (k * sz)) := fun w O R hp => (h w O R hp).take hk
theorem Reads.head8 {A : SA} {n cap k : Nat} {a : Option Addr} {l : List UInt8} (h : Reads A 1 (.slice a n cap) n (l.map v8)) (hk : k ≤ n) : Reads A 1 (.slice a k cap) k ((l.take k).map v8) := by
  have := h.head hk
  rwa [Nat.mul_one, ← List.map_take] at this
section
variable {L L1 : List SA}
/-- the beginning of bytes of one's own, from now on read -/
theorem Ent.headOwn {e n cap k : Nat} {a : Option Addr} {l : List UInt8} (h : Pull (SA.owns e 1 (.slice a n cap) n (l.map v8)) L L1) (hk : k ≤ n) : Ent L (SA.rds 1 (.slice a k cap) k ((l.take k).map v8) :: L1) := by
  have := Ent.takeRds (L := L1) (sz := 1) (a := a) (cap := cap) (cs := l.map v8) hk
  rw [Nat.mul_one, ← List.map_take] at this
  exact h.ent.trans (Ent.freeze.trans this)
/-- the elements apart from the slice -/
theorem Ent.unSl {α : Type} [Dat α] {a : Option Addr} {cap : Nat} {l : List α} {L : List SA} : Ent (SA.dat (⟨a, cap, l⟩ : Sl α) :: L) (SA.rds (Dat.sz α) (.slice a l.length cap) l.length (Dat.cs l) :: SA.rdss (l.flatMap Dat.g) :: L) :=
  (Ent.rdsOf (s := (⟨a, cap, l⟩ : Sl α))).trans (Ent.under _ ((Ent.rdss_sub fun q hq => List.mem_cons_of_mem _ hq).trans (Ent.under _ Ent.drop)))
/-- the beginning of a slice, beside the whole -/
theorem Ent.headSl {α : Type} [Dat α] {a : Option Addr} {cap k : Nat} {l : List α} (h : Pull (SA.dat (⟨a, cap, l⟩ : Sl α)) L L1) (hk : k ≤ l.length) : Ent L (SA.dat (⟨a, cap, l.take k⟩ : Sl α) :: SA.dat (⟨a, cap, l⟩ : Sl α) :: L1) := by
  refine h.ent.trans ((Ent.dup Dup.dat).trans (Ent.unSl.trans ?_))
  refine (Ent.takeRds hk).trans ?_
  have hl : (l.take k).length = k := by rw [List.length_take]; omega
  have hc : (Dat.cs l).take (k * Dat.sz α) = Dat.cs (l.take k) := by
    have e : Dat.cs l = Dat.cs (l.take k) ++ Dat.cs (l.drop k) := by rw [← Dat.cs_app, List.take_append_drop]
    rw [e, show k * Dat.sz α = (Dat.cs (l.take k)).length by rw [Dat.cs_len, hl], List.take_left]
  rw [hc]
  refine (Ent.under _ ((Ent.rdss_sub (hs := (l.take k).flatMap Dat.g) fun q hq => ?_).trans (Ent.under _ Ent.drop))).trans (Ent.mkSl hl rfl rfl)
  obtain ⟨x, hx, hq⟩ := List.mem_flatMap.1 hq
  exact List.mem_flatMap.2 ⟨x, List.mem_of_mem_take hx, hq⟩
end
section
variable {P : Program} {L : List SA} {f : FuncId} {args : List Value}
/-- a function that reads a slice of structs is handed one of one's own -/
theorem Fn.lendSl {α : Type} [Dat α] {e sz cap : Nat} {a : Option Addr} {l : List α} {R : Value → List SA → Prop} (hs : Dat.sz α = sz) (h : ∀ L, Fn P f args (SA.dat (⟨a, cap, l⟩ : Sl α) :: L) (fun v L' => ∃ Ln, R v Ln ∧ (∀ A, In A Ln → OO A) ∧ L' = Ln ++ SA.dat (⟨a, cap, l⟩ : Sl α) :: L)) (L : List SA) :
    Fn P f args (SA.owns e sz (.slice a l.length cap) l.length (Dat.cs l) :: SA.rdss (l.flatMap Dat.g) :: L) (fun v L' => ∃ Ln, R v Ln ∧ L' = Ln ++ SA.owns e sz (.slice a l.length cap) l.length (Dat.cs l) :: SA.rdss (l.flatMap Dat.g) :: L) := by
  subst hs
  refine (Fn.lend (R := R) (Lend.cons Lend1.own (Lend.cons (Lend1.same Dup.rdss) Lend.nil)) ?_ L)
  refine Fn.preE (Ent.mkSl rfl rfl rfl) ((h []).mono ?_)
  rintro v L' ⟨Ln, h1, h2, rfl⟩
  refine ⟨Ln ++ [SA.rds (Dat.sz α) (.slice a l.length cap) l.length (Dat.cs l), SA.rdss (l.flatMap Dat.g)], ?_, Ln, h1, h2, rfl⟩
  have e0 : ∀ M : List SA, Ent (M ++ [SA.dat (⟨a, cap, l⟩ : Sl α)]) (M ++ [SA.rds (Dat.sz α) (.slice a l.length cap) l.length (Dat.cs l), SA.rdss (l.flatMap Dat.g)]) := fun M => by
    induction M with
    | nil => exact Ent.unSl
    | cons B M ih => exact ih.under B
  exact e0 Ln
end
end Go.Proofs.Ythamkpjiecigjaa

/- twcc, read and written: numbers, the document's; walked. -/
namespace Go.Proofs.Ythamkpjiecigjaa
set_option linter.unusedVariables false
set_option linter.unusedSimpArgs false
open Go.RowKit
namespace tw
namespace FxTr1
set_option maxRecDepth 100000
theorem sc5 : Program.isSc Try.prog 5 = true := by kernel_rfl
theorem sl52 : Program.slI Try.prog 52 = some 1 := by kernel_rfl
theorem sz5 : (Try.prog.info? 5).map (·.size) = some 1 := by kernel_rfl
end FxTr1
open FxTr1
theorem or_add (x y : Nat) (h : y < 256) : x * 256 ||| y = x * 256 + y := by
  have := Nat.two_pow_add_eq_or_of_lt (i := 8) h x
  rw [Nat.mul_comm x 256, this]
def num641 (x : UInt64) (c : UInt8) : UInt64 := shl64 x 8 ||| c.toUInt64
def num64 (l : List UInt8) : UInt64 := l.foldl num641 0
theorem num64_s (l : List UInt8) (k : Nat) (h : k < l.length) : num64 (l.take (k + 1)) = num641 (num64 (l.take k)) (l.getD k 0) := by
  rw [num64, List.take_add_one, List.foldl_append, List.getElem?_eq_getElem h, List.getD_eq_getElem?_getD, List.getElem?_eq_getElem h]
  rfl
theorem step64 (n : Nat) (c : UInt8) (hn : n < 16777216) : num641 (UInt64.ofNat n) c = UInt64.ofNat (n * 256 + c.toNat) := by
  have hc := c.toNat_lt
  apply UInt64.toNat_inj.1
  rw [UInt64.toNat_ofNat_of_lt' (by show _ < 18446744073709551616; omega)]
  simp only [num641, shl64]
  rw [UInt64.toNat_or, UInt64.toNat_ofNat_of_lt' (show n < 18446744073709551616 by omega)]
  simp
  rw [show n * 256 % 18446744073709551616 = n * 256 by omega, or_add _ _ (by omega)]
theorem num64_2 (x y : UInt8) : (num64 [x, y]).toNat = x.toNat * 256 + y.toNat := by
  have hx := x.toNat_lt; have hy := y.toNat_lt
  have e : num64 [x, y] = UInt64.ofNat (x.toNat * 256 + y.toNat) := by
    simp only [num64, List.foldl_cons, List.foldl_nil]
    rw [show (0 : UInt64) = UInt64.ofNat 0 from rfl, step64 0 x (by omega), step64 _ y (by omega), Nat.zero_mul, Nat.zero_add]
  rw [e, UInt64.toNat_ofNat_of_lt' (by show _ < 18446744073709551616; omega)]
theorem num64_4 (x y z u : UInt8) : (num64 [x, y, z, u]).toNat = ((x.toNat * 256 + y.toNat) * 256 + z.toNat) * 256 + u.toNat := by
  have hx := x.toNat_lt; have hy := y.toNat_lt; have hz := z.toNat_lt; have hu := u.toNat_lt
  have e : num64 [x, y, z, u] = UInt64.ofNat (((x.toNat * 256 + y.toNat) * 256 + z.toNat) * 256 + u.toNat) := by
    simp only [num64, List.foldl_cons, List.foldl_nil]
    rw [show (0 : UInt64) = UInt64.ofNat 0 from rfl, step64 0 x (by omega), step64 _ y (by omega), step64 _ z (by omega), step64 _ u (by omega), Nat.zero_mul, Nat.zero_add]
  rw [e, UInt64.toNat_ofNat_of_lt' (by show _ < 18446744073709551616; omega)]
theorem Number_gen (A : SA) (a : Option Addr) (n cap : Nat) (l : List UInt8) (hA : Reads A 1 (.slice a n cap) n (l.map v8)) (hn : l.length = n) (L : List SA) :
    Fn Try.prog 29 [.slice a n cap] (A :: L) (fun v L' => v = v64 (num64 l) ∧ L' = A :: L) := by
  refine Fn.of (N := 20) Try.func29 rfl rfl ?_
  intro Xh
  refine TC.know (reads_cap hA (a := a) (n := n) (cap := cap) (cs := l.map v8) inn) ?_
  rintro ⟨hc1, hc2, -, -⟩
  simp only [maxLen] at hc2
  refine TC.seq ?_
  refine TC.region ?_
  refine TL.val rfl rfl rfl (Y.assign rfl rfl) ?_
  refine TL.nil ?_
  refine TQ.next ?_
  refine TC.seq ?_
  refine TC.region ?_
  refine TL.val rfl rfl rfl (Y.assign rfl rfl) ?_
  refine TL.nil ?_
  refine TQ.next ?_
  refine TC.seq ?_
  refine TC.seq ?_
  refine TC.region ?_
  refine TL.val rfl rfl rfl (Y.move rfl rfl) ?_
  refine TL.val rfl rfl rfl (Y.len rfl Try.underlying52 rfl) ?_
  refine TL.val rfl rfl rfl (Y.move rfl rfl) ?_
  refine TL.nil ?_
  refine TQ.next ?_
  refine TC.block ?_
  refine TC.loopF (ι := Nat) [] (fun k => k ≤ n) (fun k => [(7, some (vN k)), (3, some (v64 (num64 (l.take k))))]) (fun k => []) (fun k => n - k) (0) (by omega) ⟨rfl, rfl, trivial⟩ Pulls.nil ?_
  rintro k hk F' L' rfl hL'
  simp only [List.cons_append, List.nil_append] at hL'
  subst hL'
  refine TC.seq ?_
  refine TC.region ?_
  refine TL.val rfl rfl rfl (Y.bin rfl rfl rfl (br_ltN)) ?_
  refine TL.nil ?_
  refine TQ.next ?_
  refine TC.seq ?_
  refine TC.cond rfl (fun c0 => ?_) (fun c0 => ?_)
  · try simp only [decide_eq_true_eq, decide_eq_false_iff_not, Bool.not_eq_true', Bool.not_eq_false', Bool.and_eq_true, Bool.or_eq_true, Nat.not_lt, Nat.not_le, beq_iff_eq, bne_iff_ne] at c0
    refine TC.skip ?_
    refine TQ.next ?_
    refine TC.seq ?_
    refine TC.block ?_
    refine TC.seq ?_
    refine TC.region ?_
    refine TL.val rfl rfl rfl (Y.move rfl rfl) ?_
    refine TL.val rfl rfl rfl (Y.assign rfl rfl) ?_
    refine TL.nil ?_
    refine TQ.next ?_
    refine TC.know (reads_some hA (a := a) (n := n) (cap := cap) (cs := l.map v8) inn (by omega) (by decide)) ?_
    rintro ⟨g, off, rfl⟩
    obtain ⟨x, hx, -⟩ := getS (l := l) (i := k) (by omega)
    have hd : l.getD k 0 = x := by rw [List.getD_eq_getElem?_getD, hx]; rfl
    refine TC.region ?_
    refine TL.val rfl rfl rfl (Y.move rfl rfl) ?_
    refine TL.val rfl rfl rfl (Y.bin rfl rfl rfl (br_shl64 (n := 8))) ?_
    refine TL.val rfl rfl rfl (Y.move rfl rfl) ?_
    refine TL.val rfl rfl rfl (Y.move rfl rfl) ?_
    refine TL.val rfl rfl rfl (by first | exact Y.indexSlB rfl sl52 rfl rfl (by omega) nqq | exact Y.indexSl rfl sl52 rfl rfl (by omega) nqq) ?_
    refine TL.val rfl rfl rfl (Y.load rfl sc5 rfl (Cel.atS (l := l) hA inn hx rfl)) ?_
    refine TL.val rfl rfl rfl (Y.conv rfl Try.underlying5 Try.underlying33 rfl (cv_8_64)) ?_
    refine TL.val rfl rfl rfl (Y.bin rfl rfl rfl (br_or64)) ?_
    refine TL.as (v64 (num64 (l.take (k + 1)))) (by (rw [num64_s l k (by omega), hd]; rfl)) ?_
    refine TL.val rfl rfl rfl (Y.assign rfl rfl) ?_
    refine TL.nil ?_
    refine TQ.block_normal ?_
    refine TQ.next ?_
    refine TC.region ?_
    refine TL.val rfl rfl rfl (Y.bin rfl rfl rfl (br_addN (n := 1) (by omega))) ?_
    refine TL.val rfl rfl rfl (Y.move rfl rfl) ?_
    refine TL.nil ?_
    refine TQ.loopF (k + 1) (by omega) (by omega) ⟨rfl, rfl, trivial⟩ grw ?_ ?_ ?_
    · kernel_rfl
    · rfl
    · simp only [List.cons_append, List.nil_append]
      exact ett
  · try simp only [decide_eq_true_eq, decide_eq_false_iff_not, Bool.not_eq_true', Bool.not_eq_false', Bool.and_eq_true, Bool.or_eq_true, Nat.not_lt, Nat.not_le, beq_iff_eq, bne_iff_ne] at c0
    refine TC.exit ?_
    refine TQ.then_exit ?_
    refine TQ.then_exit ?_
    refine TQ.block_exit ?_
    refine TQ.next ?_
    refine TC.seq ?_
    obtain rfl : k = l.length := by omega
    rw [List.take_length]
    refine TC.region ?_
    refine TL.val rfl rfl rfl (Y.move rfl rfl) ?_
    refine TL.val rfl rfl rfl (Y.assign rfl rfl) ?_
    refine TL.nil ?_
    refine TQ.next ?_
    refine TC.ret ?_
    refine TQ.retE (res1 rfl rfl) (⟨rfl, rfl⟩) ?_
    exact ett
/-- what is read at a place -/
def at2 (l : List UInt8) (k : Nat) : Nat := (num64 ((l.drop k).take 2)).toNat
def at4 (l : List UInt8) (k : Nat) : UInt32 := (num64 ((l.drop k).take 4)).toUInt32
theorem at2_be (p q : List UInt8) (n k : Nat) (hp : p.length = k) (hn : n < 65536) : at2 (p ++ (r1.be2 n ++ q)) k = n := by
  subst hp
  unfold at2
  rw [List.drop_left, show (r1.be2 n ++ q).take 2 = r1.be2 n from rfl]
  unfold r1.be2
  rw [num64_2, UInt8.toNat_ofNat', UInt8.toNat_ofNat']
  omega
theorem at4_be (p q : List UInt8) (x : UInt32) (k : Nat) (hp : p.length = k) : at4 (p ++ (r1.be4 x ++ q)) k = x := by
  subst hp
  have hx := x.toNat_lt
  unfold at4
  rw [List.drop_left, show (r1.be4 x ++ q).take 4 = r1.be4 x from rfl]
  apply UInt32.toNat_inj.1
  rw [UInt64.toNat_toUInt32]
  unfold r1.be4
  rw [num64_4]
  simp only [shr32, UInt32.toNat_toUInt8]
  rw [UInt32.toNat_ofNat_of_lt' (by show _ < 4294967296; omega), UInt32.toNat_ofNat_of_lt' (by show _ < 4294967296; omega), UInt32.toNat_ofNat_of_lt' (by show _ < 4294967296; omega)]
  omega
theorem Reads.cut8 {A : SA} {n cap k h : Nat} {a : Option Addr} {l : List UInt8} (hA : Reads A 1 (.slice a n cap) n (l.map v8)) (hk : k ≤ h) (hn : h ≤ n) : Reads A 1 (cutV a cap k h 1) (h - k) (((l.drop k).take (h - k)).map v8) := fun w O R hp => by
  have h1 := (hA w O R hp).drop (k := k) (by omega)
  have h2 := h1.take (k := h - k) (by omega)
  rw [show ((l.map v8).drop (k * 1)).take ((h - k) * 1) = ((l.drop k).take (h - k)).map v8 by rw [List.map_take, List.map_drop, Nat.mul_one, Nat.mul_one]] at h2
  simpa [cutV, dropV, takeV] using h2
theorem n32_fn (A : SA) (a : Option Addr) (n cap k : Nat) (l : List UInt8) (hA : Reads A 1 (.slice a n cap) n (l.map v8)) (hn : l.length = n) (hk : k + 4 ≤ n) (L : List SA) :
    Fn Try.prog 42 [.slice a n cap, vN k] (A :: L) (fun v L' => v = v32 (at4 l k) ∧ L' = A :: L) := by
  refine Fn.of (N := 12) Try.func42 rfl rfl ?_
  intro Xh
  refine TC.know (reads_cap hA (a := a) (n := n) (cap := cap) (cs := l.map v8) inn) ?_
  rintro ⟨hc1, hc2, -, -⟩
  simp only [maxLen] at hc2
  refine TC.seq ?_
  refine TC.region ?_
  refine TL.val rfl rfl rfl (Y.assign rfl rfl) ?_
  refine TL.nil ?_
  refine TQ.next ?_
  refine TC.seq ?_
  refine TC.region ?_
  refine TL.val rfl rfl rfl (Y.move rfl rfl) ?_
  refine TL.val rfl rfl rfl (Y.move rfl rfl) ?_
  refine TL.val rfl rfl rfl (Y.move rfl rfl) ?_
  refine TL.val rfl rfl rfl (Y.bin rfl rfl rfl (br_addN (n := 4) (by omega))) ?_
  refine TL.val rfl rfl rfl (Y.sliceLH rfl Try.underlying52 sz5 rfl rfl rfl (by omega) (by omega)) ?_
  refine TL.as (.slice (if cap = k then a else a.map (·.add (k * 1))) 4 (cap - k)) (by (unfold cutV; rw [show k + 4 - k = 4 by omega])) ?_
  refine TL.eff rfl rfl rfl (X.cl rfl Try.func29 rfl (h := (Number_gen A (if cap = k then a else a.map (·.add (k * 1))) 4 (cap - k) ((l.drop k).take 4) (by have h := Reads.cut8 hA (show k ≤ k + 4 by omega) hk; rw [show k + 4 - k = 4 by omega] at h; simpa only [cutV, show k + 4 - k = 4 by omega] using h) (by rw [List.length_take, List.length_drop]; omega) _))) ?_
  rintro _ _ ⟨rfl, rfl⟩
  refine TL.val rfl rfl rfl (Y.conv rfl Try.underlying33 Try.underlying23 rfl (cv_64_32)) ?_
  refine TL.val rfl rfl rfl (Y.assign rfl rfl) ?_
  refine TL.nil ?_
  refine TQ.next ?_
  refine TC.ret ?_
  refine TQ.retE (res1 rfl rfl) (⟨rfl, rfl⟩) ?_
  exact ett
--REG rostrum/rostrumref13.four : _ _ ⟨g{d}, rfl, rfl⟩ => (tw.four_fn {0} _)
theorem four_fn (x : UInt32) (L : List SA) : Fn Try.prog 37 [v32 x] L (fun v L' => ∃ g, v = .slice (some ⟨g, 0, none⟩) 4 4 ∧ L' = SA.owns 5 1 (.slice (some ⟨g, 0, none⟩) 4 4) 4 ((r1.be4 x).map v8) :: L) := by
  refine Fn.of (N := 5) Try.func37 rfl rfl ?_
  intro Xh
  refine TC.seq ?_
  refine TC.region ?_
  refine TL.val rfl rfl rfl (Y.assign rfl rfl) ?_
  refine TL.nil ?_
  refine TQ.next ?_
  refine TC.seq ?_
  refine TC.region ?_
  refine TL.val rfl rfl rfl (Y.move rfl rfl) ?_
  refine TL.eff rfl rfl rfl (X.cl rfl Try.func44 rfl (h := (r1.Four_fn _ _))) ?_
  rintro _ _ ⟨g4, rfl, rfl⟩
  refine TL.val rfl rfl rfl (Y.assign rfl rfl) ?_
  refine TL.nil ?_
  refine TQ.next ?_
  refine TC.ret ?_
  refine TQ.retE (res1 rfl rfl) (⟨g4, rfl, rfl⟩) ?_
  exact ett
/-! ### arrivals, written -/
def byteI (x : Int) : UInt8 := UInt8.ofNat (x % 256).toNat
def farB (x : Int) : List UInt8 := if x = 65536 then [] else if 0 ≤ x ∧ x ≤ 255 then [byteI x] else [byteI (x / 256), byteI x]
def mk (x : Int) : Nat := if x = 65536 then 0 else if 0 ≤ x ∧ x ≤ 255 then 1 else 2
def mkAt (l : List Int) (i : Nat) : Nat := ((l[i]?).map mk).getD 0
theorem mk_le (x : Int) : mk x ≤ 2 := by unfold mk; split; omega; split <;> omega
theorem mkAt_le (l : List Int) (i : Nat) : mkAt l i ≤ 2 := by
  unfold mkAt
  cases l[i]? with
  | none => exact Nat.zero_le _
  | some x => exact mk_le x
theorem farB_len (x : Int) : (farB x).length = mk x := by unfold farB mk; split; rfl; split <;> rfl
/-- the marks of seven, of which m are in -/
def mkw (l : List Int) (j : Nat) : Nat → Nat
  | 0 => 49152
  | k + 1 => mkw l j k + mkAt l (7 * j + k) * 2 ^ (12 - 2 * k)
theorem mkw_7 (l : List Int) (j : Nat) : mkw l j 7 = 49152 + mkAt l (7 * j) * 4096 + mkAt l (7 * j + 1) * 1024 + mkAt l (7 * j + 2) * 256 + mkAt l (7 * j + 3) * 64 + mkAt l (7 * j + 4) * 16 + mkAt l (7 * j + 5) * 4 + mkAt l (7 * j + 6) := by
  simp [mkw]
theorem mkw_get (l : List Int) (j k : Nat) (hk : k < 7) : mkw l j 7 / 2 ^ (12 - 2 * k) % 4 = mkAt l (7 * j + k) := by
  rw [mkw_7]
  have h0 := mkAt_le l (7 * j); have h1 := mkAt_le l (7 * j + 1); have h2 := mkAt_le l (7 * j + 2); have h3 := mkAt_le l (7 * j + 3); have h4 := mkAt_le l (7 * j + 4); have h5 := mkAt_le l (7 * j + 5); have h6 := mkAt_le l (7 * j + 6)
  match k, hk with
  | 0, _ => simp only [Nat.add_zero, Nat.mul_zero, Nat.sub_zero, show (2 : Nat) ^ 12 = 4096 from rfl]; omega
  | 1, _ => simp only [show (2 : Nat) ^ (12 - 2 * 1) = 1024 from rfl]; omega
  | 2, _ => simp only [show (2 : Nat) ^ (12 - 2 * 2) = 256 from rfl]; omega
  | 3, _ => simp only [show (2 : Nat) ^ (12 - 2 * 3) = 64 from rfl]; omega
  | 4, _ => simp only [show (2 : Nat) ^ (12 - 2 * 4) = 16 from rfl]; omega
  | 5, _ => simp only [show (2 : Nat) ^ (12 - 2 * 5) = 4 from rfl]; omega
  | 6, _ => simp only [show (2 : Nat) ^ (12 - 2 * 6) = 1 from rfl]; omega
theorem mkw_lt (l : List Int) (j k : Nat) (hk : k ≤ 7) : mkw l j k < 65536 := by
  have h0 := mkAt_le l (7 * j); have h1 := mkAt_le l (7 * j + 1); have h2 := mkAt_le l (7 * j + 2); have h3 := mkAt_le l (7 * j + 3); have h4 := mkAt_le l (7 * j + 4); have h5 := mkAt_le l (7 * j + 5); have h6 := mkAt_le l (7 * j + 6)
  match k, hk with
  | 0, _ => show 49152 < 65536; decide
  | 1, _ => simp [mkw]; omega
  | 2, _ => simp [mkw]; omega
  | 3, _ => simp [mkw]; omega
  | 4, _ => simp [mkw]; omega
  | 5, _ => simp [mkw]; omega
  | 6, _ => simp [mkw]; omega
  | 7, _ => rw [mkw_7]; omega
def marksN (l : List Int) (n : Nat) : List UInt8 := (List.range n).flatMap fun j => r1.be2 (mkw l j 7)
theorem marksN_s (l : List Int) (n : Nat) : marksN l (n + 1) = marksN l n ++ r1.be2 (mkw l n 7) := by
  unfold marksN; rw [List.range_succ, List.flatMap_append]; simp
theorem marksN_len (l : List Int) : ∀ n, (marksN l n).length = 2 * n
  | 0 => rfl
  | n + 1 => by rw [marksN_s, List.length_append, marksN_len, r1.be2_len]; omega
def farL (l : List Int) : List UInt8 := l.flatMap farB
theorem farL_s (l : List Int) (k : Nat) (x : Int) (h : l[k]? = some x) : farL (l.take (k + 1)) = farL (l.take k) ++ farB x := by
  unfold farL; rw [List.take_add_one, h, List.flatMap_append]; simp
def rows (n : Nat) : Nat := (n + 6) / 7
def arrB (l : List Int) : List UInt8 := marksN l (rows l.length) ++ farL l
theorem farL_len (l : List Int) : (farL l).length ≤ 2 * l.length := by
  induction l with
  | nil => exact Nat.le_refl _
  | cons x l ih =>
    show (farB x ++ farL l).length ≤ _
    rw [List.length_append, farB_len, List.length_cons]
    have := mk_le x; omega
/-- each is lost, or so far from the one ahead -/
def Fit (l : List Int) : Prop := ∀ x ∈ l, x = 65536 ∨ -32768 ≤ x ∧ x ≤ 32767
end tw
end Go.Proofs.Ythamkpjiecigjaa

/- twcc, read and written: what a packet says, and whether it is right; walked. -/
namespace Go.Proofs.Ythamkpjiecigjaa
set_option linter.unusedVariables false
set_option linter.unusedSimpArgs false
open Go.RowKit
namespace tw
namespace FxTr2
set_option maxRecDepth 100000
theorem ag46 : Program.aggN Try.prog 46 = some 16 := by kernel_rfl
theorem fo46_0 : Program.fieldOff Try.prog 46 0 = some 0 := by kernel_rfl
theorem fo46_1 : Program.fieldOff Try.prog 46 1 = some 1 := by kernel_rfl
theorem fo46_10 : Program.fieldOff Try.prog 46 10 = some 10 := by kernel_rfl
theorem fo46_11 : Program.fieldOff Try.prog 46 11 = some 11 := by kernel_rfl
theorem fo46_12 : Program.fieldOff Try.prog 46 12 = some 12 := by kernel_rfl
theorem fo46_13 : Program.fieldOff Try.prog 46 13 = some 13 := by kernel_rfl
theorem fo46_14 : Program.fieldOff Try.prog 46 14 = some 14 := by kernel_rfl
theorem fo46_15 : Program.fieldOff Try.prog 46 15 = some 15 := by kernel_rfl
theorem fo46_2 : Program.fieldOff Try.prog 46 2 = some 2 := by kernel_rfl
theorem fo46_3 : Program.fieldOff Try.prog 46 3 = some 3 := by kernel_rfl
theorem fo46_4 : Program.fieldOff Try.prog 46 4 = some 4 := by kernel_rfl
theorem fo46_5 : Program.fieldOff Try.prog 46 5 = some 5 := by kernel_rfl
theorem fo46_6 : Program.fieldOff Try.prog 46 6 = some 6 := by kernel_rfl
theorem fo46_7 : Program.fieldOff Try.prog 46 7 = some 7 := by kernel_rfl
theorem fo46_8 : Program.fieldOff Try.prog 46 8 = some 8 := by kernel_rfl
theorem fo46_9 : Program.fieldOff Try.prog 46 9 = some 9 := by kernel_rfl
theorem pl46 : Program.places Try.prog 46 = some [(0, 1), (1, 1), (2, 1), (3, 1), (4, 1), (5, 1), (6, 1), (7, 1), (8, 1), (9, 1), (10, 1), (11, 1), (12, 1), (13, 1), (14, 1), (15, 1)] := by kernel_rfl
theorem sc23 : Program.isSc Try.prog 23 = true := by kernel_rfl
theorem sc29 : Program.isSc Try.prog 29 = true := by kernel_rfl
theorem sc3 : Program.isSc Try.prog 3 = true := by kernel_rfl
theorem sc33 : Program.isSc Try.prog 33 = true := by kernel_rfl
theorem sc35 : Program.isSc Try.prog 35 = true := by kernel_rfl
theorem sc36 : Program.isSc Try.prog 36 = true := by kernel_rfl
theorem sc37 : Program.isSc Try.prog 37 = true := by kernel_rfl
theorem sc43 : Program.isSc Try.prog 43 = true := by kernel_rfl
theorem sc44 : Program.isSc Try.prog 44 = true := by kernel_rfl
theorem sc5 : Program.isSc Try.prog 5 = true := by kernel_rfl
theorem sc9 : Program.isSc Try.prog 9 = true := by kernel_rfl
theorem sl37 : Program.slI Try.prog 37 = some 1 := by kernel_rfl
theorem sz46 : (Try.prog.info? 46).map (·.size) = some 16 := by kernel_rfl
theorem zc46 : Program.zeroC Try.prog 46 = some #[.int .i64 0, .int .u32 0, .int .u32 0, .int .u64 0, .int .u32 0, .int .u32 0, .int .u32 0, .slice none 0 0, .string .empty, .slice none 0 0, .slice none 0 0, .int .u16 0, .int .u32 0, .int .u8 0, .slice none 0 0, .slice none 0 0] := by kernel_rfl
end FxTr2
open FxTr2
theorem same_rd (k : Nat) (s m : UInt32) (b : UInt16) (r : UInt32) (c : UInt8) (a a' : Option Addr) (cap cap' : Nat) (l : List Int) (A A' : SA) (hA : Reads A 1 (.slice a l.length cap) l.length (l.map vI)) (hA' : Reads A' 1 (.slice a' l.length cap') l.length (l.map vI)) (L : List SA) :
    Fn Try.prog 13 [.agg (PK k s m b r c (.slice a l.length cap)), .agg (PK k s m b r c (.slice a' l.length cap'))] (A :: A' :: L) (fun v L' => v = .bool true ∧ L' = A :: A' :: L) := by
  refine Fn.of (N := 218) Try.func13 rfl rfl ?_
  intro Xh
  refine TC.seq ?_
  refine TC.region ?_
  refine TL.eff rfl rfl rfl (X.boxA rfl rfl) ?_
  rintro _ _ ⟨b2, rfl, rfl⟩
  refine TL.eff rfl rfl rfl (X.boxA rfl rfl) ?_
  rintro _ _ ⟨b3, rfl, rfl⟩
  refine TL.val rfl rfl rfl (Y.assign rfl rfl) ?_
  refine TL.nil ?_
  refine TQ.next ?_
  refine TC.seq ?_
  refine TC.seq ?_
  refine TC.region ?_
  refine TL.val rfl rfl rfl (by first | exact Y.fieldAddrJ rfl fo46_0 rfl nqq | exact Y.fieldAddr rfl fo46_0 rfl nqq) ?_
  refine TL.val rfl rfl rfl (Y.load rfl sc3 rfl celN) ?_
  refine TL.as (vN k) (by rfl) ?_
  refine TL.val rfl rfl rfl (by first | exact Y.fieldAddrJ rfl fo46_0 rfl nqq | exact Y.fieldAddr rfl fo46_0 rfl nqq) ?_
  refine TL.val rfl rfl rfl (Y.load rfl sc3 rfl celN) ?_
  refine TL.as (vN k) (by rfl) ?_
  refine TL.val rfl rfl rfl (Y.bin rfl rfl rfl (br_neN)) ?_
  refine TL.is false isf ?_
  refine TL.val rfl rfl rfl (Y.move rfl rfl) ?_
  refine TL.valG rfl rfl rfl (by first | exact Y.fieldAddrJ rfl fo46_1 rfl nqq | exact Y.fieldAddr rfl fo46_1 rfl nqq) ?_
  refine TL.valG rfl rfl rfl (Y.load rfl sc23 rfl cel32) ?_
  refine TL.as (v32 s) (by rfl) ?_
  refine TL.valG rfl rfl rfl (by first | exact Y.fieldAddrJ rfl fo46_1 rfl nqq | exact Y.fieldAddr rfl fo46_1 rfl nqq) ?_
  refine TL.valG rfl rfl rfl (Y.load rfl sc23 rfl cel32) ?_
  refine TL.as (v32 s) (by rfl) ?_
  refine TL.valG rfl rfl rfl (Y.bin rfl rfl rfl (br_ne32)) ?_
  refine TL.is false isf ?_
  refine TL.val rfl rfl rfl (Y.pick_f rfl rfl rfl) ?_
  refine TL.val rfl rfl rfl (Y.move rfl rfl) ?_
  refine TL.valG rfl rfl rfl (by first | exact Y.fieldAddrJ rfl fo46_2 rfl nqq | exact Y.fieldAddr rfl fo46_2 rfl nqq) ?_
  refine TL.valG rfl rfl rfl (Y.load rfl sc23 rfl cel32) ?_
  refine TL.as (v32 m) (by rfl) ?_
  refine TL.valG rfl rfl rfl (by first | exact Y.fieldAddrJ rfl fo46_2 rfl nqq | exact Y.fieldAddr rfl fo46_2 rfl nqq) ?_
  refine TL.valG rfl rfl rfl (Y.load rfl sc23 rfl cel32) ?_
  refine TL.as (v32 m) (by rfl) ?_
  refine TL.valG rfl rfl rfl (Y.bin rfl rfl rfl (br_ne32)) ?_
  refine TL.is false isf ?_
  refine TL.val rfl rfl rfl (Y.pick_f rfl rfl rfl) ?_
  refine TL.val rfl rfl rfl (Y.move rfl rfl) ?_
  refine TL.valG rfl rfl rfl (by first | exact Y.fieldAddrJ rfl fo46_3 rfl nqq | exact Y.fieldAddr rfl fo46_3 rfl nqq) ?_
  refine TL.valG rfl rfl rfl (Y.load rfl sc33 rfl cel64) ?_
  refine TL.as (v64 0) (by rfl) ?_
  refine TL.valG rfl rfl rfl (by first | exact Y.fieldAddrJ rfl fo46_3 rfl nqq | exact Y.fieldAddr rfl fo46_3 rfl nqq) ?_
  refine TL.valG rfl rfl rfl (Y.load rfl sc33 rfl cel64) ?_
  refine TL.as (v64 0) (by rfl) ?_
  refine TL.valG rfl rfl rfl (Y.bin rfl rfl rfl (br_ne64)) ?_
  refine TL.is false isf ?_
  refine TL.val rfl rfl rfl (Y.pick_f rfl rfl rfl) ?_
  refine TL.val rfl rfl rfl (Y.move rfl rfl) ?_
  refine TL.valG rfl rfl rfl (by first | exact Y.fieldAddrJ rfl fo46_4 rfl nqq | exact Y.fieldAddr rfl fo46_4 rfl nqq) ?_
  refine TL.valG rfl rfl rfl (Y.load rfl sc23 rfl cel32) ?_
  refine TL.as (v32 0) (by rfl) ?_
  refine TL.valG rfl rfl rfl (by first | exact Y.fieldAddrJ rfl fo46_4 rfl nqq | exact Y.fieldAddr rfl fo46_4 rfl nqq) ?_
  refine TL.valG rfl rfl rfl (Y.load rfl sc23 rfl cel32) ?_
  refine TL.as (v32 0) (by rfl) ?_
  refine TL.valG rfl rfl rfl (Y.bin rfl rfl rfl (br_ne32)) ?_
  refine TL.is false isf ?_
  refine TL.val rfl rfl rfl (Y.pick_f rfl rfl rfl) ?_
  refine TL.val rfl rfl rfl (Y.move rfl rfl) ?_
  refine TL.valG rfl rfl rfl (by first | exact Y.fieldAddrJ rfl fo46_5 rfl nqq | exact Y.fieldAddr rfl fo46_5 rfl nqq) ?_
  refine TL.valG rfl rfl rfl (Y.load rfl sc23 rfl cel32) ?_
  refine TL.as (v32 0) (by rfl) ?_
  refine TL.valG rfl rfl rfl (by first | exact Y.fieldAddrJ rfl fo46_5 rfl nqq | exact Y.fieldAddr rfl fo46_5 rfl nqq) ?_
  refine TL.valG rfl rfl rfl (Y.load rfl sc23 rfl cel32) ?_
  refine TL.as (v32 0) (by rfl) ?_
  refine TL.valG rfl rfl rfl (Y.bin rfl rfl rfl (br_ne32)) ?_
  refine TL.is false isf ?_
  refine TL.val rfl rfl rfl (Y.pick_f rfl rfl rfl) ?_
  refine TL.val rfl rfl rfl (Y.move rfl rfl) ?_
  refine TL.valG rfl rfl rfl (by first | exact Y.fieldAddrJ rfl fo46_6 rfl nqq | exact Y.fieldAddr rfl fo46_6 rfl nqq) ?_
  refine TL.valG rfl rfl rfl (Y.load rfl sc23 rfl cel32) ?_
  refine TL.as (v32 0) (by rfl) ?_
  refine TL.valG rfl rfl rfl (by first | exact Y.fieldAddrJ rfl fo46_6 rfl nqq | exact Y.fieldAddr rfl fo46_6 rfl nqq) ?_
  refine TL.valG rfl rfl rfl (Y.load rfl sc23 rfl cel32) ?_
  refine TL.as (v32 0) (by rfl) ?_
  refine TL.valG rfl rfl rfl (Y.bin rfl rfl rfl (br_ne32)) ?_
  refine TL.is false isf ?_
  refine TL.val rfl rfl rfl (Y.pick_f rfl rfl rfl) ?_
  refine TL.val rfl rfl rfl (Y.move rfl rfl) ?_
  refine TL.valG rfl rfl rfl (by first | exact Y.fieldAddrJ rfl fo46_8 rfl nqq | exact Y.fieldAddr rfl fo46_8 rfl nqq) ?_
  refine TL.valG rfl rfl rfl (Y.load rfl sc9 rfl celD) ?_
  refine TL.as (.string .empty) (by rfl) ?_
  refine TL.valG rfl rfl rfl (by first | exact Y.fieldAddrJ rfl fo46_8 rfl nqq | exact Y.fieldAddr rfl fo46_8 rfl nqq) ?_
  refine TL.valG rfl rfl rfl (Y.load rfl sc9 rfl celD) ?_
  refine TL.as (.string .empty) (by rfl) ?_
  refine TL.valG rfl rfl rfl (Y.neStr rfl rfl rfl) ?_
  refine TL.is false isf ?_
  refine TL.val rfl rfl rfl (Y.pick_f rfl rfl rfl) ?_
  refine TL.val rfl rfl rfl (Y.move rfl rfl) ?_
  refine TL.valG rfl rfl rfl (by first | exact Y.fieldAddrJ rfl fo46_11 rfl nqq | exact Y.fieldAddr rfl fo46_11 rfl nqq) ?_
  refine TL.valG rfl rfl rfl (Y.load rfl sc29 rfl cel16) ?_
  refine TL.as (v16 b) (by rfl) ?_
  refine TL.valG rfl rfl rfl (by first | exact Y.fieldAddrJ rfl fo46_11 rfl nqq | exact Y.fieldAddr rfl fo46_11 rfl nqq) ?_
  refine TL.valG rfl rfl rfl (Y.load rfl sc29 rfl cel16) ?_
  refine TL.as (v16 b) (by rfl) ?_
  refine TL.valG rfl rfl rfl (Y.bin rfl rfl rfl (br_ne16)) ?_
  refine TL.is false isf ?_
  refine TL.val rfl rfl rfl (Y.pick_f rfl rfl rfl) ?_
  refine TL.val rfl rfl rfl (Y.move rfl rfl) ?_
  refine TL.valG rfl rfl rfl (by first | exact Y.fieldAddrJ rfl fo46_12 rfl nqq | exact Y.fieldAddr rfl fo46_12 rfl nqq) ?_
  refine TL.valG rfl rfl rfl (Y.load rfl sc23 rfl cel32) ?_
  refine TL.as (v32 r) (by rfl) ?_
  refine TL.valG rfl rfl rfl (by first | exact Y.fieldAddrJ rfl fo46_12 rfl nqq | exact Y.fieldAddr rfl fo46_12 rfl nqq) ?_
  refine TL.valG rfl rfl rfl (Y.load rfl sc23 rfl cel32) ?_
  refine TL.as (v32 r) (by rfl) ?_
  refine TL.valG rfl rfl rfl (Y.bin rfl rfl rfl (br_ne32)) ?_
  refine TL.is false isf ?_
  refine TL.val rfl rfl rfl (Y.pick_f rfl rfl rfl) ?_
  refine TL.val rfl rfl rfl (Y.move rfl rfl) ?_
  refine TL.valG rfl rfl rfl (by first | exact Y.fieldAddrJ rfl fo46_13 rfl nqq | exact Y.fieldAddr rfl fo46_13 rfl nqq) ?_
  refine TL.valG rfl rfl rfl (Y.load rfl sc5 rfl cel8) ?_
  refine TL.as (v8 c) (by rfl) ?_
  refine TL.valG rfl rfl rfl (by first | exact Y.fieldAddrJ rfl fo46_13 rfl nqq | exact Y.fieldAddr rfl fo46_13 rfl nqq) ?_
  refine TL.valG rfl rfl rfl (Y.load rfl sc5 rfl cel8) ?_
  refine TL.as (v8 c) (by rfl) ?_
  refine TL.valG rfl rfl rfl (Y.bin rfl rfl rfl (br_ne8)) ?_
  refine TL.is false isf ?_
  refine TL.val rfl rfl rfl (Y.pick_f rfl rfl rfl) ?_
  refine TL.nil ?_
  refine TQ.next ?_
  refine TC.cond_f rfl ?_
  refine TC.skip ?_
  refine TQ.next ?_
  refine TC.seq ?_
  refine TC.seq ?_
  refine TC.region ?_
  refine TL.val rfl rfl rfl (by first | exact Y.fieldAddrJ rfl fo46_7 rfl nqq | exact Y.fieldAddr rfl fo46_7 rfl nqq) ?_
  refine TL.val rfl rfl rfl (Y.load rfl sc43 rfl celD) ?_
  refine TL.as (.slice none 0 0) (by rfl) ?_
  refine TL.val rfl rfl rfl (Y.len rfl Try.underlying43 rfl) ?_
  refine TL.val rfl rfl rfl (by first | exact Y.fieldAddrJ rfl fo46_7 rfl nqq | exact Y.fieldAddr rfl fo46_7 rfl nqq) ?_
  refine TL.val rfl rfl rfl (Y.load rfl sc43 rfl celD) ?_
  refine TL.as (.slice none 0 0) (by rfl) ?_
  refine TL.val rfl rfl rfl (Y.len rfl Try.underlying43 rfl) ?_
  refine TL.val rfl rfl rfl (Y.bin rfl rfl rfl (br_neN)) ?_
  refine TL.is false isf ?_
  refine TL.val rfl rfl rfl (Y.move rfl rfl) ?_
  refine TL.valG rfl rfl rfl (by first | exact Y.fieldAddrJ rfl fo46_9 rfl nqq | exact Y.fieldAddr rfl fo46_9 rfl nqq) ?_
  refine TL.valG rfl rfl rfl (Y.load rfl sc35 rfl celD) ?_
  refine TL.as (.slice none 0 0) (by rfl) ?_
  refine TL.valG rfl rfl rfl (Y.len rfl Try.underlying35 rfl) ?_
  refine TL.valG rfl rfl rfl (by first | exact Y.fieldAddrJ rfl fo46_9 rfl nqq | exact Y.fieldAddr rfl fo46_9 rfl nqq) ?_
  refine TL.valG rfl rfl rfl (Y.load rfl sc35 rfl celD) ?_
  refine TL.as (.slice none 0 0) (by rfl) ?_
  refine TL.valG rfl rfl rfl (Y.len rfl Try.underlying35 rfl) ?_
  refine TL.valG rfl rfl rfl (Y.bin rfl rfl rfl (br_neN)) ?_
  refine TL.is false isf ?_
  refine TL.val rfl rfl rfl (Y.pick_f rfl rfl rfl) ?_
  refine TL.val rfl rfl rfl (Y.move rfl rfl) ?_
  refine TL.valG rfl rfl rfl (by first | exact Y.fieldAddrJ rfl fo46_10 rfl nqq | exact Y.fieldAddr rfl fo46_10 rfl nqq) ?_
  refine TL.valG rfl rfl rfl (Y.load rfl sc36 rfl celD) ?_
  refine TL.as (.slice none 0 0) (by rfl) ?_
  refine TL.valG rfl rfl rfl (Y.len rfl Try.underlying36 rfl) ?_
  refine TL.valG rfl rfl rfl (by first | exact Y.fieldAddrJ rfl fo46_10 rfl nqq | exact Y.fieldAddr rfl fo46_10 rfl nqq) ?_
  refine TL.valG rfl rfl rfl (Y.load rfl sc36 rfl celD) ?_
  refine TL.as (.slice none 0 0) (by rfl) ?_
  refine TL.valG rfl rfl rfl (Y.len rfl Try.underlying36 rfl) ?_
  refine TL.valG rfl rfl rfl (Y.bin rfl rfl rfl (br_neN)) ?_
  refine TL.is false isf ?_
  refine TL.val rfl rfl rfl (Y.pick_f rfl rfl rfl) ?_
  refine TL.val rfl rfl rfl (Y.move rfl rfl) ?_
  refine TL.valG rfl rfl rfl (by first | exact Y.fieldAddrJ rfl fo46_14 rfl nqq | exact Y.fieldAddr rfl fo46_14 rfl nqq) ?_
  refine TL.valG rfl rfl rfl (Y.load rfl sc37 rfl celD) ?_
  refine TL.as (.slice a l.length cap) (by rfl) ?_
  refine TL.valG rfl rfl rfl (Y.len rfl Try.underlying37 rfl) ?_
  refine TL.valG rfl rfl rfl (by first | exact Y.fieldAddrJ rfl fo46_14 rfl nqq | exact Y.fieldAddr rfl fo46_14 rfl nqq) ?_
  refine TL.valG rfl rfl rfl (Y.load rfl sc37 rfl celD) ?_
  refine TL.as (.slice a' l.length cap') (by rfl) ?_
  refine TL.valG rfl rfl rfl (Y.len rfl Try.underlying37 rfl) ?_
  refine TL.valG rfl rfl rfl (Y.bin rfl rfl rfl (br_neN)) ?_
  refine TL.is false isf ?_
  refine TL.val rfl rfl rfl (Y.pick_f rfl rfl rfl) ?_
  refine TL.val rfl rfl rfl (Y.move rfl rfl) ?_
  refine TL.valG rfl rfl rfl (by first | exact Y.fieldAddrJ rfl fo46_15 rfl nqq | exact Y.fieldAddr rfl fo46_15 rfl nqq) ?_
  refine TL.valG rfl rfl rfl (Y.load rfl sc44 rfl celD) ?_
  refine TL.as (.slice none 0 0) (by rfl) ?_
  refine TL.valG rfl rfl rfl (Y.len rfl Try.underlying44 rfl) ?_
  refine TL.valG rfl rfl rfl (by first | exact Y.fieldAddrJ rfl fo46_15 rfl nqq | exact Y.fieldAddr rfl fo46_15 rfl nqq) ?_
  refine TL.valG rfl rfl rfl (Y.load rfl sc44 rfl celD) ?_
  refine TL.as (.slice none 0 0) (by rfl) ?_
  refine TL.valG rfl rfl rfl (Y.len rfl Try.underlying44 rfl) ?_
  refine TL.valG rfl rfl rfl (Y.bin rfl rfl rfl (br_neN)) ?_
  refine TL.is false isf ?_
  refine TL.val rfl rfl rfl (Y.pick_f rfl rfl rfl) ?_
  refine TL.nil ?_
  refine TQ.next ?_
  refine TC.cond_f rfl ?_
  refine TC.skip ?_
  refine TQ.next ?_
  refine TC.seq ?_
  refine TC.seq ?_
  refine TC.region ?_
  refine TL.val rfl rfl rfl (by first | exact Y.fieldAddrJ rfl fo46_7 rfl nqq | exact Y.fieldAddr rfl fo46_7 rfl nqq) ?_
  refine TL.val rfl rfl rfl (Y.load rfl sc43 rfl celD) ?_
  refine TL.as (.slice none 0 0) (by rfl) ?_
  refine TL.val rfl rfl rfl (Y.len rfl Try.underlying43 rfl) ?_
  refine TL.val rfl rfl rfl (Y.move rfl rfl) ?_
  refine TL.nil ?_
  refine TQ.next ?_
  refine TC.block ?_
  refine TC.loopF (ι := Unit) [4] (fun _ => True) (fun _ => [(131, some (vN 0))]) (fun _ => []) (fun _ => 0) (()) (trivial) ⟨rfl, trivial⟩ Pulls.nil ?_
  rintro ⟨⟩ - F' L' rfl hL'
  simp only [List.cons_append, List.nil_append] at hL'
  subst hL'
  refine TC.seq ?_
  refine TC.region ?_
  refine TL.val rfl rfl rfl (Y.bin rfl rfl rfl (br_ltN)) ?_
  refine TL.is false isf ?_
  refine TL.nil ?_
  refine TQ.next ?_
  refine TC.seq ?_
  refine TC.cond_f rfl ?_
  refine TC.exit ?_
  refine TQ.then_exit ?_
  refine TQ.then_exit ?_
  refine TQ.block_exit ?_
  refine TQ.next ?_
  refine TC.seq ?_
  refine TC.seq ?_
  refine TC.region ?_
  refine TL.val rfl rfl rfl (by first | exact Y.fieldAddrJ rfl fo46_9 rfl nqq | exact Y.fieldAddr rfl fo46_9 rfl nqq) ?_
  refine TL.val rfl rfl rfl (Y.load rfl sc35 rfl celD) ?_
  refine TL.as (.slice none 0 0) (by rfl) ?_
  refine TL.val rfl rfl rfl (Y.len rfl Try.underlying35 rfl) ?_
  refine TL.val rfl rfl rfl (Y.move rfl rfl) ?_
  refine TL.nil ?_
  refine TQ.next ?_
  refine TC.block ?_
  refine TC.loopF (ι := Unit) [4] (fun _ => True) (fun _ => [(149, some (vN 0))]) (fun _ => []) (fun _ => 0) (()) (trivial) ⟨rfl, trivial⟩ Pulls.nil ?_
  rintro ⟨⟩ - F' L' rfl hL'
  simp only [List.cons_append, List.nil_append] at hL'
  subst hL'
  refine TC.seq ?_
  refine TC.region ?_
  refine TL.val rfl rfl rfl (Y.bin rfl rfl rfl (br_ltN)) ?_
  refine TL.is false isf ?_
  refine TL.nil ?_
  refine TQ.next ?_
  refine TC.seq ?_
  refine TC.cond_f rfl ?_
  refine TC.exit ?_
  refine TQ.then_exit ?_
  refine TQ.then_exit ?_
  refine TQ.block_exit ?_
  refine TQ.next ?_
  refine TC.seq ?_
  refine TC.seq ?_
  refine TC.region ?_
  refine TL.val rfl rfl rfl (by first | exact Y.fieldAddrJ rfl fo46_10 rfl nqq | exact Y.fieldAddr rfl fo46_10 rfl nqq) ?_
  refine TL.val rfl rfl rfl (Y.load rfl sc36 rfl celD) ?_
  refine TL.as (.slice none 0 0) (by rfl) ?_
  refine TL.val rfl rfl rfl (Y.len rfl Try.underlying36 rfl) ?_
  refine TL.val rfl rfl rfl (Y.move rfl rfl) ?_
  refine TL.nil ?_
  refine TQ.next ?_
  refine TC.block ?_
  refine TC.loopF (ι := Unit) [4] (fun _ => True) (fun _ => [(167, some (vN 0))]) (fun _ => []) (fun _ => 0) (()) (trivial) ⟨rfl, trivial⟩ Pulls.nil ?_
  rintro ⟨⟩ - F' L' rfl hL'
  simp only [List.cons_append, List.nil_append] at hL'
  subst hL'
  refine TC.seq ?_
  refine TC.region ?_
  refine TL.val rfl rfl rfl (Y.bin rfl rfl rfl (br_ltN)) ?_
  refine TL.is false isf ?_
  refine TL.nil ?_
  refine TQ.next ?_
  refine TC.seq ?_
  refine TC.cond_f rfl ?_
  refine TC.exit ?_
  refine TQ.then_exit ?_
  refine TQ.then_exit ?_
  refine TQ.block_exit ?_
  refine TQ.next ?_
  refine TC.seq ?_
  refine TC.seq ?_
  refine TC.region ?_
  refine TL.val rfl rfl rfl (by first | exact Y.fieldAddrJ rfl fo46_14 rfl nqq | exact Y.fieldAddr rfl fo46_14 rfl nqq) ?_
  refine TL.val rfl rfl rfl (Y.load rfl sc37 rfl celD) ?_
  refine TL.as (.slice a l.length cap) (by rfl) ?_
  refine TL.val rfl rfl rfl (Y.len rfl Try.underlying37 rfl) ?_
  refine TL.val rfl rfl rfl (Y.move rfl rfl) ?_
  refine TL.nil ?_
  refine TQ.next ?_
  refine TC.block ?_
  refine TC.know (reads_cap hA (a := a) (n := l.length) (cap := cap) (cs := l.map vI) inn) ?_
  rintro ⟨hc1, hc2, -, -⟩
  simp only [maxLen] at hc2
  refine TC.loopF (ι := Nat) [4] (fun k => k ≤ l.length) (fun k => [(185, some (vN k))]) (fun k => []) (fun k => l.length - k) (0) (by omega) ⟨rfl, trivial⟩ Pulls.nil ?_
  rintro k hk F' L' rfl hL'
  simp only [List.cons_append, List.nil_append] at hL'
  subst hL'
  refine TC.seq ?_
  refine TC.region ?_
  refine TL.val rfl rfl rfl (Y.bin rfl rfl rfl (br_ltN)) ?_
  refine TL.nil ?_
  refine TQ.next ?_
  refine TC.seq ?_
  refine TC.cond rfl (fun c5 => ?_) (fun c5 => ?_)
  · try simp only [decide_eq_true_eq, decide_eq_false_iff_not, Bool.not_eq_true', Bool.not_eq_false', Bool.and_eq_true, Bool.or_eq_true, Nat.not_lt, Nat.not_le, beq_iff_eq, bne_iff_ne] at c5
    refine TC.skip ?_
    refine TQ.next ?_
    refine TC.seq ?_
    refine TC.block ?_
    refine TC.seq ?_
    refine TC.know (reads_some hA (a := a) (n := l.length) (cap := cap) (cs := l.map vI) inn (by omega) (by decide)) ?_
    rintro ⟨g, off, rfl⟩
    refine TC.know (reads_some hA' (a := a') (n := l.length) (cap := cap') (cs := l.map vI) inn (by omega) (by decide)) ?_
    rintro ⟨g', off', rfl⟩
    obtain ⟨x, hx, -⟩ := getS (l := l) (i := k) (by omega)
    have hcx : (l.map vI)[k]? = some (vI x) := by rw [List.getElem?_map, hx]; rfl
    refine TC.region ?_
    refine TL.val rfl rfl rfl (Y.move rfl rfl) ?_
    refine TL.val rfl rfl rfl (Y.assign rfl rfl) ?_
    refine TL.nil ?_
    refine TQ.next ?_
    refine TC.seq ?_
    refine TC.draws 11 _ (by kernel_rfl) (by kernel_rfl) (fun _ h => h) ?_
    refine TA.tk 0 rfl rfl (by first | exact Y.fieldAddrJ rfl fo46_14 rfl nqq | exact Y.fieldAddr rfl fo46_14 rfl nqq) ?_
    refine TA.tk 1 rfl rfl (Y.load rfl sc37 rfl celD) ?_
    refine TA.as (.slice (some ⟨g, off, none⟩) l.length cap) (by rfl) ?_
    refine TA.tk 2 rfl rfl (Y.move rfl rfl) ?_
    refine TA.tk 3 rfl rfl (by first | exact Y.indexSlB rfl sl37 rfl rfl (by omega) nqq | exact Y.indexSl rfl sl37 rfl rfl (by omega) nqq) ?_
    refine TA.tk 4 rfl rfl (Y.load rfl sc3 rfl (Cel.atS (l := l) hA inn hx rfl)) ?_
    refine TA.tk 5 rfl rfl (by first | exact Y.fieldAddrJ rfl fo46_14 rfl nqq | exact Y.fieldAddr rfl fo46_14 rfl nqq) ?_
    refine TA.tk 6 rfl rfl (Y.load rfl sc37 rfl celD) ?_
    refine TA.as (.slice (some ⟨g', off', none⟩) l.length cap') (by rfl) ?_
    refine TA.tk 7 rfl rfl (Y.move rfl rfl) ?_
    refine TA.tk 8 rfl rfl (by first | exact Y.indexSlB rfl sl37 rfl rfl (by omega) nqq | exact Y.indexSl rfl sl37 rfl rfl (by omega) nqq) ?_
    refine TA.tk 9 rfl rfl (Y.load rfl sc3 rfl (Cel.atS (l := l) hA' inn hx rfl)) ?_
    refine TA.tk 10 rfl rfl (Y.bin rfl rfl rfl (br_neI)) ?_
    refine TA.is false isf ?_
    refine TA.done (by kernel_rfl) ?_
    refine TQ.next ?_
    refine TC.cond_f rfl ?_
    refine TC.skip ?_
    refine TQ.block_normal ?_
    refine TQ.next ?_
    refine TC.region ?_
    refine TL.val rfl rfl rfl (Y.bin rfl rfl rfl (br_addN (n := 1) (by omega))) ?_
    refine TL.val rfl rfl rfl (Y.move rfl rfl) ?_
    refine TL.nil ?_
    refine TQ.loopF (k + 1) (by omega) (by omega) ⟨rfl, trivial⟩ grw ?_ ?_ ?_
    · kernel_rfl
    · rfl
    · simp only [List.cons_append, List.nil_append]
      exact ett
  · try simp only [decide_eq_true_eq, decide_eq_false_iff_not, Bool.not_eq_true', Bool.not_eq_false', Bool.and_eq_true, Bool.or_eq_true, Nat.not_lt, Nat.not_le, beq_iff_eq, bne_iff_ne] at c5
    refine TC.exit ?_
    refine TQ.then_exit ?_
    refine TQ.then_exit ?_
    refine TQ.block_exit ?_
    refine TQ.next ?_
    refine TC.seq ?_
    refine TC.seq ?_
    refine TC.region ?_
    refine TL.val rfl rfl rfl (by first | exact Y.fieldAddrJ rfl fo46_15 rfl nqq | exact Y.fieldAddr rfl fo46_15 rfl nqq) ?_
    refine TL.val rfl rfl rfl (Y.load rfl sc44 rfl celD) ?_
    refine TL.as (.slice none 0 0) (by rfl) ?_
    refine TL.val rfl rfl rfl (Y.len rfl Try.underlying44 rfl) ?_
    refine TL.val rfl rfl rfl (Y.move rfl rfl) ?_
    refine TL.nil ?_
    refine TQ.next ?_
    refine TC.block ?_
    refine TC.loopF (ι := Unit) [4] (fun _ => True) (fun _ => [(203, some (vN 0))]) (fun _ => []) (fun _ => 0) (()) (trivial) ⟨rfl, trivial⟩ Pulls.nil ?_
    rintro ⟨⟩ - F' L' rfl hL'
    simp only [List.cons_append, List.nil_append] at hL'
    subst hL'
    refine TC.seq ?_
    refine TC.region ?_
    refine TL.val rfl rfl rfl (Y.bin rfl rfl rfl (br_ltN)) ?_
    refine TL.is false isf ?_
    refine TL.nil ?_
    refine TQ.next ?_
    refine TC.seq ?_
    refine TC.cond_f rfl ?_
    refine TC.exit ?_
    refine TQ.then_exit ?_
    refine TQ.then_exit ?_
    refine TQ.block_exit ?_
    refine TQ.next ?_
    refine TC.seq ?_
    refine TC.region ?_
    refine TL.val rfl rfl rfl (Y.assign rfl rfl) ?_
    refine TL.nil ?_
    refine TQ.next ?_
    refine TC.ret ?_
    refine TQ.retE (res1 rfl rfl) (⟨rfl, rfl⟩) ?_
    exact ett
theorem same_self (k : Nat) (s m : UInt32) (b : UInt16) (r : UInt32) (c : UInt8) (a : Option Addr) (cap : Nat) (l : List Int) (L : List SA) :
    Fn Try.prog 13 [.agg (PK k s m b r c (.slice a l.length cap)), .agg (PK k s m b r c (.slice a l.length cap))] (SA.rds 1 (.slice a l.length cap) l.length (l.map vI) :: L) (fun v L' => v = .bool true ∧ L' = SA.rds 1 (.slice a l.length cap) l.length (l.map vI) :: L) := by
  refine Fn.preE (Ent.dup Dup.rds) ((same_rd k s m b r c a a cap cap l _ _ Reads.rds Reads.rds L).mono ?_)
  rintro v L' ⟨rfl, rfl⟩
  exact ⟨_, Ent.drop, rfl, rfl⟩
theorem only6_fn (s m : UInt32) (b : UInt16) (r : UInt32) (c : UInt8) (arr : Value) (h1 : arr.oneCell' = true) (L : List SA) : Fn Try.prog 34 [.agg (PK 6 s m b r c arr)] L (fun v L' => v = .agg (PK 6 s m b r c arr) ∧ L' = L) := by
  refine Fn.of (N := 78) Try.func34 rfl rfl ?_
  intro Xh
  refine TC.seq ?_
  refine TC.region ?_
  refine TL.eff rfl rfl rfl (X.box (cs := PK 6 s m b r c arr) rfl rfl rfl) ?_
  rintro _ _ ⟨b1, rfl, rfl⟩
  refine TL.eff rfl rfl rfl (X.alloc rfl zc46) ?_
  rintro _ _ ⟨b2, rfl, rfl⟩
  refine TL.nil ?_
  refine TQ.next ?_
  refine TC.seq ?_
  refine TC.region ?_
  refine TL.val rfl rfl rfl (by first | exact Y.fieldAddrJ rfl fo46_0 rfl nqq | exact Y.fieldAddr rfl fo46_0 rfl nqq) ?_
  refine TL.val rfl rfl rfl (Y.load rfl sc3 rfl celN) ?_
  refine TL.as (vN 6) (by rfl) ?_
  refine TL.val rfl rfl rfl (Y.buildS (cells := PK 6 0 0 0 0 0 (.slice none 0 0)) rfl rfl pl46 zc46 (by kernel_rfl)) ?_
  refine TL.eff rfl rfl rfl (X.alloc rfl zc46) ?_
  rintro _ _ ⟨b3, rfl, rfl⟩
  refine TL.eff0 rfl rfl (by first | exact X.storeAll rfl sz46 (by rfl) rfl rfl (allOne (by rfl)) pul (by rfl) | exact X.storeAll rfl sz46 szz rfl rfl (by simp [Value.oneCell']) pul szz | exact X.storeAgg rfl sz46 szz rfl rfl (by simp [Value.oneCell']) pul szz (writeM (by ((try simp only [List.length_set, List.length_map, List.length_append, List.length_replicate]); omega)))) ?_
  rintro _ _ rfl
  refine TL.nil ?_
  refine TQ.next ?_
  refine TC.seq ?_
  refine TC.seq ?_
  refine TC.region ?_
  refine TL.val rfl rfl rfl (by first | exact Y.fieldAddrJ rfl fo46_0 rfl nqq | exact Y.fieldAddr rfl fo46_0 rfl nqq) ?_
  refine TL.val rfl rfl rfl (Y.load rfl sc3 rfl celN) ?_
  refine TL.as (vN 6) (by rfl) ?_
  refine TL.val rfl rfl rfl (Y.bin rfl rfl rfl (br_neN (n := 4))) ?_
  refine TL.is true isf ?_
  refine TL.nil ?_
  refine TQ.next ?_
  refine TC.cond_t rfl ?_
  refine TC.region ?_
  refine TL.val rfl rfl rfl (by first | exact Y.fieldAddrJ rfl fo46_1 rfl nqq | exact Y.fieldAddr rfl fo46_1 rfl nqq) ?_
  refine TL.val rfl rfl rfl (Y.load rfl sc23 rfl cel32) ?_
  refine TL.as (v32 s) (by rfl) ?_
  refine TL.val rfl rfl rfl (by first | exact Y.fieldAddrJ rfl fo46_1 rfl nqq | exact Y.fieldAddr rfl fo46_1 rfl nqq) ?_
  refine TL.eff0 rfl rfl (X.store (cs' := PK 6 s 0 0 0 0 (.slice none 0 0)) rfl (by kernel_rfl) rfl rfl rfl pul (by show 1 < 16; decide) rfl) ?_
  rintro _ _ rfl
  refine TL.nil ?_
  refine TQ.next ?_
  refine TC.seq ?_
  refine TC.seq ?_
  refine TC.region ?_
  refine TL.val rfl rfl rfl (by first | exact Y.fieldAddrJ rfl fo46_0 rfl nqq | exact Y.fieldAddr rfl fo46_0 rfl nqq) ?_
  refine TL.val rfl rfl rfl (Y.load rfl sc3 rfl celN) ?_
  refine TL.as (vN 6) (by rfl) ?_
  refine TL.val rfl rfl rfl (Y.bin rfl rfl rfl (br_geN (n := 5))) ?_
  refine TL.is true isf ?_
  refine TL.nil ?_
  refine TQ.next ?_
  refine TC.cond_t rfl ?_
  refine TC.region ?_
  refine TL.val rfl rfl rfl (by first | exact Y.fieldAddrJ rfl fo46_2 rfl nqq | exact Y.fieldAddr rfl fo46_2 rfl nqq) ?_
  refine TL.val rfl rfl rfl (Y.load rfl sc23 rfl cel32) ?_
  refine TL.as (v32 m) (by rfl) ?_
  refine TL.val rfl rfl rfl (by first | exact Y.fieldAddrJ rfl fo46_2 rfl nqq | exact Y.fieldAddr rfl fo46_2 rfl nqq) ?_
  refine TL.eff0 rfl rfl (X.store (cs' := PK 6 s m 0 0 0 (.slice none 0 0)) rfl (by kernel_rfl) rfl rfl rfl pul (by show 2 < 16; decide) rfl) ?_
  rintro _ _ rfl
  refine TL.nil ?_
  refine TQ.next ?_
  refine TC.seq ?_
  refine TC.seq ?_
  refine TC.region ?_
  refine TL.val rfl rfl rfl (by first | exact Y.fieldAddrJ rfl fo46_0 rfl nqq | exact Y.fieldAddr rfl fo46_0 rfl nqq) ?_
  refine TL.val rfl rfl rfl (Y.load rfl sc3 rfl celN) ?_
  refine TL.as (vN 6) (by rfl) ?_
  refine TL.nil ?_
  refine TQ.next ?_
  refine TC.block ?_
  refine TC.seq ?_
  refine TC.region ?_
  refine TL.val rfl rfl rfl (Y.bin rfl rfl rfl (br_eqN (n := 1))) ?_
  refine TL.is false isf ?_
  refine TL.val rfl rfl rfl (Y.assign rfl rfl) ?_
  refine TL.nil ?_
  refine TQ.next ?_
  refine TC.cond_f rfl ?_
  refine TC.seq ?_
  refine TC.region ?_
  refine TL.val rfl rfl rfl (Y.bin rfl rfl rfl (br_eqN (n := 2))) ?_
  refine TL.is false isf ?_
  refine TL.val rfl rfl rfl (Y.assign rfl rfl) ?_
  refine TL.nil ?_
  refine TQ.next ?_
  refine TC.cond_f rfl ?_
  refine TC.seq ?_
  refine TC.region ?_
  refine TL.val rfl rfl rfl (Y.bin rfl rfl rfl (br_eqN (n := 3))) ?_
  refine TL.is false isf ?_
  refine TL.val rfl rfl rfl (Y.assign rfl rfl) ?_
  refine TL.nil ?_
  refine TQ.next ?_
  refine TC.cond_f rfl ?_
  refine TC.seq ?_
  refine TC.region ?_
  refine TL.val rfl rfl rfl (Y.bin rfl rfl rfl (br_eqN (n := 4))) ?_
  refine TL.is false isf ?_
  refine TL.val rfl rfl rfl (Y.assign rfl rfl) ?_
  refine TL.nil ?_
  refine TQ.next ?_
  refine TC.cond_f rfl ?_
  refine TC.seq ?_
  refine TC.region ?_
  refine TL.val rfl rfl rfl (Y.bin rfl rfl rfl (br_eqN (n := 5))) ?_
  refine TL.is false isf ?_
  refine TL.val rfl rfl rfl (Y.assign rfl rfl) ?_
  refine TL.nil ?_
  refine TQ.next ?_
  refine TC.cond_f rfl ?_
  refine TC.seq ?_
  refine TC.region ?_
  refine TL.val rfl rfl rfl (Y.bin rfl rfl rfl (br_eqN (n := 6))) ?_
  refine TL.is true isf ?_
  refine TL.val rfl rfl rfl (Y.assign rfl rfl) ?_
  refine TL.nil ?_
  refine TQ.next ?_
  refine TC.cond_t rfl ?_
  refine TC.draws 20 [SA.blk b1 (PK 6 s m b r c arr) 46] (by kernel_rfl) (by kernel_rfl) hld ?_
  refine TA.tk 0 rfl rfl (by first | exact Y.fieldAddrJ rfl fo46_11 rfl nqq | exact Y.fieldAddr rfl fo46_11 rfl nqq) ?_
  refine TA.tk 1 rfl rfl (Y.load rfl sc29 rfl cel16) ?_
  refine TA.as (v16 b) (by rfl) ?_
  refine TA.tk 2 rfl rfl (by first | exact Y.fieldAddrJ rfl fo46_12 rfl nqq | exact Y.fieldAddr rfl fo46_12 rfl nqq) ?_
  refine TA.tk 3 rfl rfl (Y.load rfl sc23 rfl cel32) ?_
  refine TA.as (v32 r) (by rfl) ?_
  refine TA.tk 4 rfl rfl (by first | exact Y.fieldAddrJ rfl fo46_13 rfl nqq | exact Y.fieldAddr rfl fo46_13 rfl nqq) ?_
  refine TA.tk 5 rfl rfl (Y.load rfl sc5 rfl cel8) ?_
  refine TA.as (v8 c) (by rfl) ?_
  refine TA.tk 6 rfl rfl (by first | exact Y.fieldAddrJ rfl fo46_14 rfl nqq | exact Y.fieldAddr rfl fo46_14 rfl nqq) ?_
  refine TA.tk 7 rfl rfl (Y.load rfl sc37 rfl celD) ?_
  refine TA.as (arr) (by rfl) ?_
  refine TA.tk 8 rfl rfl (by first | exact Y.fieldAddrJ rfl fo46_11 rfl nqq | exact Y.fieldAddr rfl fo46_11 rfl nqq) ?_
  refine TA.one0 9 (by kernel_rfl) rfl rfl rfl (X.store (cs' := PK 6 s m b 0 0 (.slice none 0 0)) rfl (by kernel_rfl) rfl rfl rfl pul (by show 11 < 16; decide) rfl) ?_
  rintro _ _ rfl
  refine ⟨(Or.inr hld), ?_⟩
  refine TA.tk 10 rfl rfl (by first | exact Y.fieldAddrJ rfl fo46_12 rfl nqq | exact Y.fieldAddr rfl fo46_12 rfl nqq) ?_
  refine TA.one0 11 (by kernel_rfl) rfl rfl rfl (X.store (cs' := PK 6 s m b r 0 (.slice none 0 0)) rfl (by kernel_rfl) rfl rfl rfl pul (by show 12 < 16; decide) rfl) ?_
  rintro _ _ rfl
  refine ⟨(Or.inr hld), ?_⟩
  refine TA.tk 12 rfl rfl (by first | exact Y.fieldAddrJ rfl fo46_13 rfl nqq | exact Y.fieldAddr rfl fo46_13 rfl nqq) ?_
  refine TA.one0 13 (by kernel_rfl) rfl rfl rfl (X.store (cs' := PK 6 s m b r c (.slice none 0 0)) rfl (by kernel_rfl) rfl rfl rfl pul (by show 13 < 16; decide) rfl) ?_
  rintro _ _ rfl
  refine ⟨(Or.inr hld), ?_⟩
  refine TA.tk 14 rfl rfl (by first | exact Y.fieldAddrJ rfl fo46_14 rfl nqq | exact Y.fieldAddr rfl fo46_14 rfl nqq) ?_
  refine TA.one0 15 (by kernel_rfl) rfl rfl rfl (X.store (cs' := PK 6 s m b r c arr) rfl (by kernel_rfl) rfl rfl h1 pul (by show 14 < 16; decide) rfl) ?_
  rintro _ _ rfl
  refine ⟨(Or.inr hld), ?_⟩
  refine TA.done (by kernel_rfl) ?_
  refine TQ.block_normal ?_
  refine TQ.next ?_
  refine TC.seq ?_
  refine TC.region ?_
  refine TL.val rfl rfl rfl (Y.loadAgg rfl ag46 rfl (Cels.all (cs := PK 6 s m b r c arr) inn) (by first | rfl | ((try simp only [List.length_map, List.length_set, List.length_replicate]); omega))) ?_
  refine TL.as (.agg (PK 6 s m b r c arr)) (by rfl) ?_
  refine TL.eff0 rfl rfl (X.storeAll (vs := PK 6 s m b r c arr) rfl (by kernel_rfl) (by rfl) rfl rfl (fun v hv => by simp [PK] at hv; rcases hv with rfl | rfl | rfl | rfl | rfl | rfl | rfl | rfl | rfl | rfl | rfl | rfl | rfl | rfl | rfl | rfl <;> first | rfl | exact h1) pul (by rfl)) ?_
  rintro _ _ rfl
  refine TL.nil ?_
  refine TQ.next ?_
  refine TC.ret ?_
  refine TQ.retE (resC rfl ag46 rfl (Cels.all (cs := PK 6 s m b r c arr) inn) (by rfl)) (⟨rfl, rfl⟩) ?_
  exact ett
theorem only2_fn (L : List SA) : Fn Try.prog 34 [.agg (PK 2 0 0 0 0 0 (.slice none 0 0))] L (fun v L' => v = .agg (PK 2 0 0 0 0 0 (.slice none 0 0)) ∧ L' = L) := by
  refine Fn.of (N := 78) Try.func34 rfl rfl ?_
  intro Xh
  refine TC.seq ?_
  refine TC.region ?_
  refine TL.eff rfl rfl rfl (X.box (cs := PK 2 0 0 0 0 0 (.slice none 0 0)) rfl rfl rfl) ?_
  rintro _ _ ⟨b1, rfl, rfl⟩
  refine TL.eff rfl rfl rfl (X.alloc rfl zc46) ?_
  rintro _ _ ⟨b2, rfl, rfl⟩
  refine TL.nil ?_
  refine TQ.next ?_
  refine TC.seq ?_
  refine TC.region ?_
  refine TL.val rfl rfl rfl (by first | exact Y.fieldAddrJ rfl fo46_0 rfl nqq | exact Y.fieldAddr rfl fo46_0 rfl nqq) ?_
  refine TL.val rfl rfl rfl (Y.load rfl sc3 rfl celN) ?_
  refine TL.as (vN 2) (by rfl) ?_
  refine TL.val rfl rfl rfl (Y.buildS (cells := PK 2 0 0 0 0 0 (.slice none 0 0)) rfl rfl pl46 zc46 (by kernel_rfl)) ?_
  refine TL.eff rfl rfl rfl (X.alloc rfl zc46) ?_
  rintro _ _ ⟨b3, rfl, rfl⟩
  refine TL.eff0 rfl rfl (by first | exact X.storeAll rfl sz46 (by rfl) rfl rfl (allOne (by rfl)) pul (by rfl) | exact X.storeAll rfl sz46 szz rfl rfl (by simp [Value.oneCell']) pul szz | exact X.storeAgg rfl sz46 szz rfl rfl (by simp [Value.oneCell']) pul szz (writeM (by ((try simp only [List.length_set, List.length_map, List.length_append, List.length_replicate]); omega)))) ?_
  rintro _ _ rfl
  refine TL.nil ?_
  refine TQ.next ?_
  refine TC.seq ?_
  refine TC.seq ?_
  refine TC.region ?_
  refine TL.val rfl rfl rfl (by first | exact Y.fieldAddrJ rfl fo46_0 rfl nqq | exact Y.fieldAddr rfl fo46_0 rfl nqq) ?_
  refine TL.val rfl rfl rfl (Y.load rfl sc3 rfl celN) ?_
  refine TL.as (vN 2) (by rfl) ?_
  refine TL.val rfl rfl rfl (Y.bin rfl rfl rfl (br_neN (n := 4))) ?_
  refine TL.is true isf ?_
  refine TL.nil ?_
  refine TQ.next ?_
  refine TC.cond_t rfl ?_
  refine TC.region ?_
  refine TL.val rfl rfl rfl (by first | exact Y.fieldAddrJ rfl fo46_1 rfl nqq | exact Y.fieldAddr rfl fo46_1 rfl nqq) ?_
  refine TL.val rfl rfl rfl (Y.load rfl sc23 rfl cel32) ?_
  refine TL.as (v32 0) (by rfl) ?_
  refine TL.val rfl rfl rfl (by first | exact Y.fieldAddrJ rfl fo46_1 rfl nqq | exact Y.fieldAddr rfl fo46_1 rfl nqq) ?_
  refine TL.eff0 rfl rfl (X.store (cs' := PK 2 0 0 0 0 0 (.slice none 0 0)) rfl (by kernel_rfl) rfl rfl rfl pul (by show 1 < 16; decide) rfl) ?_
  rintro _ _ rfl
  refine TL.nil ?_
  refine TQ.next ?_
  refine TC.seq ?_
  refine TC.seq ?_
  refine TC.region ?_
  refine TL.val rfl rfl rfl (by first | exact Y.fieldAddrJ rfl fo46_0 rfl nqq | exact Y.fieldAddr rfl fo46_0 rfl nqq) ?_
  refine TL.val rfl rfl rfl (Y.load rfl sc3 rfl celN) ?_
  refine TL.as (vN 2) (by rfl) ?_
  refine TL.val rfl rfl rfl (Y.bin rfl rfl rfl (br_geN (n := 5))) ?_
  refine TL.is false isf ?_
  refine TL.nil ?_
  refine TQ.next ?_
  refine TC.cond_f rfl ?_
  refine TC.skip ?_
  refine TQ.next ?_
  refine TC.seq ?_
  refine TC.seq ?_
  refine TC.region ?_
  refine TL.val rfl rfl rfl (by first | exact Y.fieldAddrJ rfl fo46_0 rfl nqq | exact Y.fieldAddr rfl fo46_0 rfl nqq) ?_
  refine TL.val rfl rfl rfl (Y.load rfl sc3 rfl celN) ?_
  refine TL.as (vN 2) (by rfl) ?_
  refine TL.nil ?_
  refine TQ.next ?_
  refine TC.block ?_
  refine TC.seq ?_
  refine TC.region ?_
  refine TL.val rfl rfl rfl (Y.bin rfl rfl rfl (br_eqN (n := 1))) ?_
  refine TL.is false isf ?_
  refine TL.val rfl rfl rfl (Y.assign rfl rfl) ?_
  refine TL.nil ?_
  refine TQ.next ?_
  refine TC.cond_f rfl ?_
  refine TC.seq ?_
  refine TC.region ?_
  refine TL.val rfl rfl rfl (Y.bin rfl rfl rfl (br_eqN (n := 2))) ?_
  refine TL.is true isf ?_
  refine TL.val rfl rfl rfl (Y.assign rfl rfl) ?_
  refine TL.nil ?_
  refine TQ.next ?_
  refine TC.cond_t rfl ?_
  refine TC.region ?_
  refine TL.val rfl rfl rfl (by first | exact Y.fieldAddrJ rfl fo46_7 rfl nqq | exact Y.fieldAddr rfl fo46_7 rfl nqq) ?_
  refine TL.val rfl rfl rfl (Y.load rfl sc43 rfl celD) ?_
  refine TL.as (.slice none 0 0) (by rfl) ?_
  refine TL.val rfl rfl rfl (by first | exact Y.fieldAddrJ rfl fo46_7 rfl nqq | exact Y.fieldAddr rfl fo46_7 rfl nqq) ?_
  refine TL.eff0 rfl rfl (X.store (cs' := PK 2 0 0 0 0 0 (.slice none 0 0)) rfl (by kernel_rfl) rfl rfl rfl pul (by show 7 < 16; decide) rfl) ?_
  rintro _ _ rfl
  refine TL.nil ?_
  refine TQ.block_normal ?_
  refine TQ.next ?_
  refine TC.seq ?_
  refine TC.region ?_
  refine TL.val rfl rfl rfl (Y.loadAgg rfl ag46 rfl (Cels.all (cs := PK 2 0 0 0 0 0 (.slice none 0 0)) inn) (by first | rfl | ((try simp only [List.length_map, List.length_set, List.length_replicate]); omega))) ?_
  refine TL.as (.agg (PK 2 0 0 0 0 0 (.slice none 0 0))) (by rfl) ?_
  refine TL.eff0 rfl rfl (X.storeAll (vs := PK 2 0 0 0 0 0 (.slice none 0 0)) rfl (by kernel_rfl) (by rfl) rfl rfl (allOne (by rfl)) pul (by rfl)) ?_
  rintro _ _ rfl
  refine TL.nil ?_
  refine TQ.next ?_
  refine TC.ret ?_
  refine TQ.retE (resC rfl ag46 rfl (Cels.all (cs := PK 2 0 0 0 0 0 (.slice none 0 0)) inn) (by rfl)) (⟨rfl, rfl⟩) ?_
  exact ett
abbrev nilR : SA := SA.rds 1 (.slice none 0 0) 0 (([] : List Int).map vI)
theorem Ent.nilR {L : List SA} : Ent L (tw.nilR :: L) := (Ent.nilOwn 3 1).trans Ent.freeze
theorem good2_fn (L : List SA) : Fn Try.prog 27 [.agg (PK 2 0 0 0 0 0 (.slice none 0 0))] L (fun v L' => v = .bool true ∧ L' = L) := by
  refine Fn.of (N := 172) Try.func27 rfl rfl ?_
  intro Xh
  refine TC.seq ?_
  refine TC.region ?_
  refine TL.eff rfl rfl rfl (X.box (cs := PK 2 0 0 0 0 0 (.slice none 0 0)) rfl rfl rfl) ?_
  rintro _ _ ⟨b1, rfl, rfl⟩
  refine TL.val rfl rfl rfl (Y.assign rfl rfl) ?_
  refine TL.nil ?_
  refine TQ.to Ent.nilR ?_
  refine TQ.next ?_
  refine TC.seq ?_
  refine TC.seq ?_
  refine TC.draws 15 [SA.blk b1 (PK 2 0 0 0 0 0 (.slice none 0 0)) 46] (by kernel_rfl) (by kernel_rfl) hld ?_
  refine TA.tk 0 rfl rfl (by first | exact Y.fieldAddrJ rfl fo46_0 rfl nqq | exact Y.fieldAddr rfl fo46_0 rfl nqq) ?_
  refine TA.tk 1 rfl rfl (Y.load rfl sc3 rfl celN) ?_
  refine TA.as (vN 2) (by rfl) ?_
  refine TA.tk 2 rfl rfl (Y.bin rfl rfl rfl (br_ltN (n := 1))) ?_
  refine TA.is false isf ?_
  refine TA.tk 3 rfl rfl (Y.move rfl rfl) ?_
  refine TA.tk 4 rfl rfl (by first | exact Y.fieldAddrJ rfl fo46_0 rfl nqq | exact Y.fieldAddr rfl fo46_0 rfl nqq) ?_
  refine TA.tk 5 rfl rfl (Y.load rfl sc3 rfl celN) ?_
  refine TA.as (vN 2) (by rfl) ?_
  refine TA.tk 6 rfl rfl (Y.bin rfl rfl rfl (br_gtN (n := 8))) ?_
  refine TA.is false isf ?_
  refine TA.tk 7 rfl rfl (Y.pick_f rfl rfl rfl) ?_
  refine TA.tk 8 rfl rfl (Y.move rfl rfl) ?_
  refine TA.tk 9 rfl rfl (Y.loadAgg rfl ag46 rfl (Cels.all (cs := PK 2 0 0 0 0 0 (.slice none 0 0)) inn) (by first | rfl | ((try simp only [List.length_map, List.length_set, List.length_replicate]); omega))) ?_
  refine TA.as (.agg (PK 2 0 0 0 0 0 (.slice none 0 0))) (by rfl) ?_
  refine TA.tk 10 rfl rfl (Y.loadAgg rfl ag46 rfl (Cels.all (cs := PK 2 0 0 0 0 0 (.slice none 0 0)) inn) (by first | rfl | ((try simp only [List.length_map, List.length_set, List.length_replicate]); omega))) ?_
  refine TA.as (.agg (PK 2 0 0 0 0 0 (.slice none 0 0))) (by rfl) ?_
  refine TA.one 11 (by kernel_rfl) rfl rfl rfl rfl (X.cl rfl Try.func34 rfl (h := (only2_fn _))) ?_
  rintro _ _ ⟨rfl, rfl⟩
  refine ⟨(Or.inr hld), ?_⟩
  refine TA.one 12 (by kernel_rfl) rfl rfl rfl rfl (X.cl rfl Try.func13 rfl (h := (same_self 2 0 0 0 0 0 none 0 [] _))) ?_
  rintro _ _ ⟨rfl, rfl⟩
  refine ⟨(Or.inr hld), ?_⟩
  refine TA.tk 13 rfl rfl (Y.not rfl rfl) ?_
  refine TA.is false isf ?_
  refine TA.tk 14 rfl rfl (Y.pick_f rfl rfl rfl) ?_
  refine TA.done (by kernel_rfl) ?_
  refine TQ.next ?_
  refine TC.cond_f rfl ?_
  refine TC.skip ?_
  refine TQ.next ?_
  refine TC.seq ?_
  refine TC.seq ?_
  refine TC.region ?_
  refine TL.val rfl rfl rfl (by first | exact Y.fieldAddrJ rfl fo46_7 rfl nqq | exact Y.fieldAddr rfl fo46_7 rfl nqq) ?_
  refine TL.val rfl rfl rfl (Y.load rfl sc43 rfl celD) ?_
  refine TL.as (.slice none 0 0) (by rfl) ?_
  refine TL.val rfl rfl rfl (Y.len rfl Try.underlying43 rfl) ?_
  refine TL.val rfl rfl rfl (Y.move rfl rfl) ?_
  refine TL.nil ?_
  refine TQ.next ?_
  refine TC.block ?_
  refine TC.loopF (ι := Unit) [2] (fun _ => True) (fun _ => [(24, some (vN 0))]) (fun _ => []) (fun _ => 0) (()) (trivial) ⟨rfl, trivial⟩ Pulls.nil ?_
  rintro ⟨⟩ - F' L' rfl hL'
  simp only [List.cons_append, List.nil_append] at hL'
  subst hL'
  refine TC.seq ?_
  refine TC.region ?_
  refine TL.val rfl rfl rfl (Y.bin rfl rfl rfl (br_ltN)) ?_
  refine TL.is false isf ?_
  refine TL.nil ?_
  refine TQ.next ?_
  refine TC.seq ?_
  refine TC.cond_f rfl ?_
  refine TC.exit ?_
  refine TQ.then_exit ?_
  refine TQ.then_exit ?_
  refine TQ.block_exit ?_
  refine TQ.next ?_
  refine TC.seq ?_
  refine TC.seq ?_
  refine TC.region ?_
  refine TL.val rfl rfl rfl (by first | exact Y.fieldAddrJ rfl fo46_10 rfl nqq | exact Y.fieldAddr rfl fo46_10 rfl nqq) ?_
  refine TL.val rfl rfl rfl (Y.load rfl sc36 rfl celD) ?_
  refine TL.as (.slice none 0 0) (by rfl) ?_
  refine TL.val rfl rfl rfl (Y.len rfl Try.underlying36 rfl) ?_
  refine TL.val rfl rfl rfl (Y.move rfl rfl) ?_
  refine TL.nil ?_
  refine TQ.next ?_
  refine TC.block ?_
  refine TC.loopF (ι := Unit) [2] (fun _ => True) (fun _ => [(38, some (vN 0))]) (fun _ => []) (fun _ => 0) (()) (trivial) ⟨rfl, trivial⟩ Pulls.nil ?_
  rintro ⟨⟩ - F' L' rfl hL'
  simp only [List.cons_append, List.nil_append] at hL'
  subst hL'
  refine TC.seq ?_
  refine TC.region ?_
  refine TL.val rfl rfl rfl (Y.bin rfl rfl rfl (br_ltN)) ?_
  refine TL.is false isf ?_
  refine TL.nil ?_
  refine TQ.next ?_
  refine TC.seq ?_
  refine TC.cond_f rfl ?_
  refine TC.exit ?_
  refine TQ.then_exit ?_
  refine TQ.then_exit ?_
  refine TQ.block_exit ?_
  refine TQ.next ?_
  refine TC.seq ?_
  refine TC.seq ?_
  refine TC.region ?_
  refine TL.val rfl rfl rfl (by first | exact Y.fieldAddrJ rfl fo46_14 rfl nqq | exact Y.fieldAddr rfl fo46_14 rfl nqq) ?_
  refine TL.val rfl rfl rfl (Y.load rfl sc37 rfl celD) ?_
  refine TL.as (.slice none 0 0) (by rfl) ?_
  refine TL.val rfl rfl rfl (Y.len rfl Try.underlying37 rfl) ?_
  refine TL.val rfl rfl rfl (Y.move rfl rfl) ?_
  refine TL.nil ?_
  refine TQ.next ?_
  refine TC.block ?_
  refine TC.loopF (ι := Unit) [2] (fun _ => True) (fun _ => [(75, some (vN 0))]) (fun _ => []) (fun _ => 0) (()) (trivial) ⟨rfl, trivial⟩ Pulls.nil ?_
  rintro ⟨⟩ - F' L' rfl hL'
  simp only [List.cons_append, List.nil_append] at hL'
  subst hL'
  refine TC.seq ?_
  refine TC.region ?_
  refine TL.val rfl rfl rfl (Y.bin rfl rfl rfl (br_ltN)) ?_
  refine TL.is false isf ?_
  refine TL.nil ?_
  refine TQ.next ?_
  refine TC.seq ?_
  refine TC.cond_f rfl ?_
  refine TC.exit ?_
  refine TQ.then_exit ?_
  refine TQ.then_exit ?_
  refine TQ.block_exit ?_
  refine TQ.next ?_
  refine TC.seq ?_
  refine TC.seq ?_
  refine TC.region ?_
  refine TL.val rfl rfl rfl (by first | exact Y.fieldAddrJ rfl fo46_0 rfl nqq | exact Y.fieldAddr rfl fo46_0 rfl nqq) ?_
  refine TL.val rfl rfl rfl (Y.load rfl sc3 rfl celN) ?_
  refine TL.as (vN 2) (by rfl) ?_
  refine TL.nil ?_
  refine TQ.next ?_
  refine TC.block ?_
  refine TC.seq ?_
  refine TC.region ?_
  refine TL.val rfl rfl rfl (Y.bin rfl rfl rfl (br_eqN (n := 3))) ?_
  refine TL.is false isf ?_
  refine TL.val rfl rfl rfl (Y.assign rfl rfl) ?_
  refine TL.nil ?_
  refine TQ.next ?_
  refine TC.cond_f rfl ?_
  refine TC.seq ?_
  refine TC.region ?_
  refine TL.val rfl rfl rfl (Y.bin rfl rfl rfl (br_eqN (n := 4))) ?_
  refine TL.is false isf ?_
  refine TL.val rfl rfl rfl (Y.assign rfl rfl) ?_
  refine TL.nil ?_
  refine TQ.next ?_
  refine TC.cond_f rfl ?_
  refine TC.seq ?_
  refine TC.region ?_
  refine TL.val rfl rfl rfl (Y.bin rfl rfl rfl (br_eqN (n := 5))) ?_
  refine TL.is false isf ?_
  refine TL.val rfl rfl rfl (Y.assign rfl rfl) ?_
  refine TL.nil ?_
  refine TQ.next ?_
  refine TC.cond_f rfl ?_
  refine TC.seq ?_
  refine TC.region ?_
  refine TL.val rfl rfl rfl (Y.bin rfl rfl rfl (br_eqN (n := 6))) ?_
  refine TL.is false isf ?_
  refine TL.val rfl rfl rfl (Y.assign rfl rfl) ?_
  refine TL.nil ?_
  refine TQ.next ?_
  refine TC.cond_f rfl ?_
  refine TC.seq ?_
  refine TC.region ?_
  refine TL.val rfl rfl rfl (Y.bin rfl rfl rfl (br_eqN (n := 8))) ?_
  refine TL.is false isf ?_
  refine TL.val rfl rfl rfl (Y.assign rfl rfl) ?_
  refine TL.nil ?_
  refine TQ.next ?_
  refine TC.cond_f rfl ?_
  refine TC.skip ?_
  refine TQ.block_normal ?_
  refine TQ.next ?_
  refine TC.seq ?_
  refine TC.region ?_
  refine TL.val rfl rfl rfl (by first | exact Y.fieldAddrJ rfl fo46_7 rfl nqq | exact Y.fieldAddr rfl fo46_7 rfl nqq) ?_
  refine TL.val rfl rfl rfl (Y.load rfl sc43 rfl celD) ?_
  refine TL.as (.slice none 0 0) (by rfl) ?_
  refine TL.val rfl rfl rfl (Y.len rfl Try.underlying43 rfl) ?_
  refine TL.val rfl rfl rfl (Y.bin rfl rfl rfl (br_leN (n := 31))) ?_
  refine TL.is true isf ?_
  refine TL.val rfl rfl rfl (Y.assign rfl rfl) ?_
  refine TL.nil ?_
  refine TQ.next ?_
  refine TC.ret ?_
  refine TQ.retE (res1 rfl rfl) (⟨rfl, rfl⟩) ?_
  exact ett
set_option maxHeartbeats 1000000 in
theorem good6_fn (s m : UInt32) (b : UInt16) (r : UInt32) (c : UInt8) (a : Option Addr) (cap : Nat) (l : List Int) (hr : r.toNat < 16777216) (h1 : 1 ≤ l.length) (h2 : l.length ≤ 255) (hf : Fit l) (L : List SA) :
    Fn Try.prog 27 [.agg (PK 6 s m b r c (.slice a l.length cap))] (SA.rds 1 (.slice a l.length cap) l.length (l.map vI) :: L) (fun v L' => v = .bool true ∧ L' = SA.rds 1 (.slice a l.length cap) l.length (l.map vI) :: L) := by
  refine Fn.of (N := 172) Try.func27 rfl rfl ?_
  intro Xh
  have hRd : Reads (SA.rds 1 (.slice a l.length cap) l.length (l.map vI)) 1 (.slice a l.length cap) l.length (l.map vI) := Reads.rds
  refine TC.seq ?_
  refine TC.region ?_
  refine TL.eff rfl rfl rfl (X.box (cs := PK 6 s m b r c (.slice a l.length cap)) rfl rfl rfl) ?_
  rintro _ _ ⟨b1, rfl, rfl⟩
  refine TL.val rfl rfl rfl (Y.assign rfl rfl) ?_
  refine TL.nil ?_
  refine TQ.next ?_
  refine TC.seq ?_
  refine TC.seq ?_
  refine TC.draws 15 [SA.blk b1 (PK 6 s m b r c (.slice a l.length cap)) 46] (by kernel_rfl) (by kernel_rfl) hld ?_
  refine TA.tk 0 rfl rfl (by first | exact Y.fieldAddrJ rfl fo46_0 rfl nqq | exact Y.fieldAddr rfl fo46_0 rfl nqq) ?_
  refine TA.tk 1 rfl rfl (Y.load rfl sc3 rfl celN) ?_
  refine TA.as (vN 6) (by rfl) ?_
  refine TA.tk 2 rfl rfl (Y.bin rfl rfl rfl (br_ltN (n := 1))) ?_
  refine TA.is false isf ?_
  refine TA.tk 3 rfl rfl (Y.move rfl rfl) ?_
  refine TA.tk 4 rfl rfl (by first | exact Y.fieldAddrJ rfl fo46_0 rfl nqq | exact Y.fieldAddr rfl fo46_0 rfl nqq) ?_
  refine TA.tk 5 rfl rfl (Y.load rfl sc3 rfl celN) ?_
  refine TA.as (vN 6) (by rfl) ?_
  refine TA.tk 6 rfl rfl (Y.bin rfl rfl rfl (br_gtN (n := 8))) ?_
  refine TA.is false isf ?_
  refine TA.tk 7 rfl rfl (Y.pick_f rfl rfl rfl) ?_
  refine TA.tk 8 rfl rfl (Y.move rfl rfl) ?_
  refine TA.tk 9 rfl rfl (Y.loadAgg rfl ag46 rfl (Cels.all (cs := PK 6 s m b r c (.slice a l.length cap)) inn) (by first | rfl | ((try simp only [List.length_map, List.length_set, List.length_replicate]); omega))) ?_
  refine TA.as (.agg (PK 6 s m b r c (.slice a l.length cap))) (by rfl) ?_
  refine TA.tk 10 rfl rfl (Y.loadAgg rfl ag46 rfl (Cels.all (cs := PK 6 s m b r c (.slice a l.length cap)) inn) (by first | rfl | ((try simp only [List.length_map, List.length_set, List.length_replicate]); omega))) ?_
  refine TA.as (.agg (PK 6 s m b r c (.slice a l.length cap))) (by rfl) ?_
  refine TA.one 11 (by kernel_rfl) rfl rfl rfl rfl (X.cl rfl Try.func34 rfl (h := (only6_fn s m b r c (.slice a l.length cap) rfl _))) ?_
  rintro _ _ ⟨rfl, rfl⟩
  refine ⟨(Or.inr hld), ?_⟩
  refine TA.one 12 (by kernel_rfl) rfl rfl rfl rfl (X.cl rfl Try.func13 rfl (h := (same_self 6 s m b r c a cap l _))) ?_
  rintro _ _ ⟨rfl, rfl⟩
  refine ⟨(Or.inr hld), ?_⟩
  refine TA.tk 13 rfl rfl (Y.not rfl rfl) ?_
  refine TA.is false isf ?_
  refine TA.tk 14 rfl rfl (Y.pick_f rfl rfl rfl) ?_
  refine TA.done (by kernel_rfl) ?_
  refine TQ.next ?_
  refine TC.cond_f rfl ?_
  refine TC.skip ?_
  refine TQ.next ?_
  refine TC.seq ?_
  refine TC.seq ?_
  refine TC.region ?_
  refine TL.val rfl rfl rfl (by first | exact Y.fieldAddrJ rfl fo46_7 rfl nqq | exact Y.fieldAddr rfl fo46_7 rfl nqq) ?_
  refine TL.val rfl rfl rfl (Y.load rfl sc43 rfl celD) ?_
  refine TL.as (.slice none 0 0) (by rfl) ?_
  refine TL.val rfl rfl rfl (Y.len rfl Try.underlying43 rfl) ?_
  refine TL.val rfl rfl rfl (Y.move rfl rfl) ?_
  refine TL.nil ?_
  refine TQ.next ?_
  refine TC.block ?_
  refine TC.loopF (ι := Unit) [2] (fun _ => True) (fun _ => [(24, some (vN 0))]) (fun _ => []) (fun _ => 0) (()) (trivial) ⟨rfl, trivial⟩ Pulls.nil ?_
  rintro ⟨⟩ - F' L' rfl hL'
  simp only [List.cons_append, List.nil_append] at hL'
  subst hL'
  refine TC.seq ?_
  refine TC.region ?_
  refine TL.val rfl rfl rfl (Y.bin rfl rfl rfl (br_ltN)) ?_
  refine TL.is false isf ?_
  refine TL.nil ?_
  refine TQ.next ?_
  refine TC.seq ?_
  refine TC.cond_f rfl ?_
  refine TC.exit ?_
  refine TQ.then_exit ?_
  refine TQ.then_exit ?_
  refine TQ.block_exit ?_
  refine TQ.next ?_
  refine TC.seq ?_
  refine TC.seq ?_
  refine TC.region ?_
  refine TL.val rfl rfl rfl (by first | exact Y.fieldAddrJ rfl fo46_10 rfl nqq | exact Y.fieldAddr rfl fo46_10 rfl nqq) ?_
  refine TL.val rfl rfl rfl (Y.load rfl sc36 rfl celD) ?_
  refine TL.as (.slice none 0 0) (by rfl) ?_
  refine TL.val rfl rfl rfl (Y.len rfl Try.underlying36 rfl) ?_
  refine TL.val rfl rfl rfl (Y.move rfl rfl) ?_
  refine TL.nil ?_
  refine TQ.next ?_
  refine TC.block ?_
  refine TC.loopF (ι := Unit) [2] (fun _ => True) (fun _ => [(38, some (vN 0))]) (fun _ => []) (fun _ => 0) (()) (trivial) ⟨rfl, trivial⟩ Pulls.nil ?_
  rintro ⟨⟩ - F' L' rfl hL'
  simp only [List.cons_append, List.nil_append] at hL'
  subst hL'
  refine TC.seq ?_
  refine TC.region ?_
  refine TL.val rfl rfl rfl (Y.bin rfl rfl rfl (br_ltN)) ?_
  refine TL.is false isf ?_
  refine TL.nil ?_
  refine TQ.next ?_
  refine TC.seq ?_
  refine TC.cond_f rfl ?_
  refine TC.exit ?_
  refine TQ.then_exit ?_
  refine TQ.then_exit ?_
  refine TQ.block_exit ?_
  refine TQ.next ?_
  refine TC.seq ?_
  refine TC.seq ?_
  refine TC.region ?_
  refine TL.val rfl rfl rfl (by first | exact Y.fieldAddrJ rfl fo46_14 rfl nqq | exact Y.fieldAddr rfl fo46_14 rfl nqq) ?_
  refine TL.val rfl rfl rfl (Y.load rfl sc37 rfl celD) ?_
  refine TL.as (.slice a l.length cap) (by rfl) ?_
  refine TL.val rfl rfl rfl (Y.len rfl Try.underlying37 rfl) ?_
  refine TL.val rfl rfl rfl (Y.move rfl rfl) ?_
  refine TL.nil ?_
  refine TQ.next ?_
  refine TC.block ?_
  refine TC.loopF (ι := Nat) [2] (fun k => k ≤ l.length) (fun k => [(75, some (vN k))]) (fun k => []) (fun k => l.length - k) (0) (by omega) ⟨rfl, trivial⟩ Pulls.nil ?_
  rintro k hk F' L' rfl hL'
  simp only [List.cons_append, List.nil_append] at hL'
  subst hL'
  refine TC.seq ?_
  refine TC.region ?_
  refine TL.val rfl rfl rfl (Y.bin rfl rfl rfl (br_ltN)) ?_
  refine TL.nil ?_
  refine TQ.next ?_
  refine TC.seq ?_
  refine TC.cond rfl (fun c3 => ?_) (fun c3 => ?_)
  · try simp only [decide_eq_true_eq, decide_eq_false_iff_not, Bool.not_eq_true', Bool.not_eq_false', Bool.and_eq_true, Bool.or_eq_true, Nat.not_lt, Nat.not_le, beq_iff_eq, bne_iff_ne] at c3
    refine TC.skip ?_
    refine TQ.next ?_
    refine TC.seq ?_
    refine TC.block ?_
    refine TC.seq ?_
    refine TC.region ?_
    refine TL.val rfl rfl rfl (Y.move rfl rfl) ?_
    refine TL.val rfl rfl rfl (Y.assign rfl rfl) ?_
    refine TL.nil ?_
    refine TQ.next ?_
    refine TC.seq ?_
    refine TC.know (reads_some hRd (a := a) (n := l.length) (cap := cap) (cs := l.map vI) inn (by omega) (by decide)) ?_
    rintro ⟨g, off, rfl⟩
    obtain ⟨x, hx, hxm⟩ := getS (l := l) (i := k) (by omega)
    have hfx := hf x hxm
    refine TC.region ?_
    refine TL.val rfl rfl rfl (by first | exact Y.fieldAddrJ rfl fo46_14 rfl nqq | exact Y.fieldAddr rfl fo46_14 rfl nqq) ?_
    refine TL.val rfl rfl rfl (Y.load rfl sc37 rfl celD) ?_
    refine TL.as (.slice (some ⟨g, off, none⟩) l.length cap) (by rfl) ?_
    refine TL.val rfl rfl rfl (Y.move rfl rfl) ?_
    refine TL.val rfl rfl rfl (by first | exact Y.indexSlB rfl sl37 rfl rfl (by omega) nqq | exact Y.indexSl rfl sl37 rfl rfl (by omega) nqq) ?_
    refine TL.val rfl rfl rfl (Y.load rfl sc3 rfl (Cel.atS (l := l) hRd inn hx rfl)) ?_
    refine TL.as (vI x) (by rfl) ?_
    refine TL.val rfl rfl rfl (Y.bin rfl rfl rfl (br_neI (n := 65536))) ?_
    refine TL.val rfl rfl rfl (Y.move rfl rfl) ?_
    refine TL.case (fun g18_6 => ?_) (fun g18_6 => ?_)
    · try simp only [decide_eq_true_eq, decide_eq_false_iff_not, Bool.not_eq_true', Bool.not_eq_false', Nat.not_lt, Nat.not_le, beq_iff_eq, bne_iff_ne] at g18_6
      refine TL.valG rfl rfl rfl (by first | exact Y.fieldAddrJ rfl fo46_14 rfl nqq | exact Y.fieldAddr rfl fo46_14 rfl nqq) ?_
      refine TL.valG rfl rfl rfl (Y.load rfl sc37 rfl celD) ?_
      refine TL.as (.slice (some ⟨g, off, none⟩) l.length cap) (by rfl) ?_
      refine TL.valG rfl rfl rfl (Y.move rfl rfl) ?_
      refine TL.valG rfl rfl rfl (by first | exact Y.indexSlB rfl sl37 rfl rfl (by omega) nqq | exact Y.indexSl rfl sl37 rfl rfl (by omega) nqq) ?_
      refine TL.valG rfl rfl rfl (Y.load rfl sc3 rfl (Cel.atS (l := l) hRd inn hx rfl)) ?_
      refine TL.as (vI x) (by rfl) ?_
      refine TL.valG rfl rfl rfl (Y.bin rfl rfl rfl (br_ltI (n := -32768))) ?_
      refine TL.is false (by (rw [decide_eq_false_iff_not]; have : ¬ x = 65536 := (by simpa using g18_6); omega)) ?_
      refine TL.valG rfl rfl rfl (Y.move rfl rfl) ?_
      refine TL.valG rfl rfl rfl (by first | exact Y.fieldAddrJ rfl fo46_14 rfl nqq | exact Y.fieldAddr rfl fo46_14 rfl nqq) ?_
      refine TL.valG rfl rfl rfl (Y.load rfl sc37 rfl celD) ?_
      refine TL.as (.slice (some ⟨g, off, none⟩) l.length cap) (by rfl) ?_
      refine TL.valG rfl rfl rfl (Y.move rfl rfl) ?_
      refine TL.valG rfl rfl rfl (by first | exact Y.indexSlB rfl sl37 rfl rfl (by omega) nqq | exact Y.indexSl rfl sl37 rfl rfl (by omega) nqq) ?_
      refine TL.valG rfl rfl rfl (Y.load rfl sc3 rfl (Cel.atS (l := l) hRd inn hx rfl)) ?_
      refine TL.as (vI x) (by rfl) ?_
      refine TL.valG rfl rfl rfl (Y.bin rfl rfl rfl (br_gtI (n := 32767))) ?_
      refine TL.is false (by (rw [decide_eq_false_iff_not]; have : ¬ x = 65536 := (by simpa using g18_6); omega)) ?_
      refine TL.valG rfl rfl rfl (Y.pick_f rfl rfl rfl) ?_
      refine TL.val rfl rfl rfl (Y.pick_t rfl rfl rfl) ?_
      refine TL.nil ?_
      refine TQ.next ?_
      refine TC.cond_f rfl ?_
      refine TC.skip ?_
      refine TQ.block_normal ?_
      refine TQ.next ?_
      refine TC.region ?_
      refine TL.val rfl rfl rfl (Y.bin rfl rfl rfl (br_addN (n := 1) (by omega))) ?_
      refine TL.val rfl rfl rfl (Y.move rfl rfl) ?_
      refine TL.nil ?_
      refine TQ.loopF (k + 1) (by omega) (by show l.length - (k + 1) < l.length - k; omega) ⟨rfl, trivial⟩ grw ?_ ?_ ?_
      · kernel_rfl
      · rfl
      · simp only [List.cons_append, List.nil_append]
        exact ett
    · try simp only [decide_eq_true_eq, decide_eq_false_iff_not, Bool.not_eq_true', Bool.not_eq_false', Nat.not_lt, Nat.not_le, beq_iff_eq, bne_iff_ne] at g18_6
      refine TL.not rfl rfl rfl ?_
      refine TL.not rfl rfl rfl ?_
      refine TL.not rfl rfl rfl ?_
      refine TL.not rfl rfl rfl ?_
      refine TL.not rfl rfl rfl ?_
      refine TL.not rfl rfl rfl ?_
      refine TL.not rfl rfl rfl ?_
      refine TL.not rfl rfl rfl ?_
      refine TL.not rfl rfl rfl ?_
      refine TL.not rfl rfl rfl ?_
      refine TL.not rfl rfl rfl ?_
      refine TL.not rfl rfl rfl ?_
      refine TL.not rfl rfl rfl ?_
      refine TL.not rfl rfl rfl ?_
      refine TL.val rfl rfl rfl (Y.pick_f rfl rfl rfl) ?_
      refine TL.nil ?_
      refine TQ.next ?_
      refine TC.cond_f rfl ?_
      refine TC.skip ?_
      refine TQ.block_normal ?_
      refine TQ.next ?_
      refine TC.region ?_
      refine TL.val rfl rfl rfl (Y.bin rfl rfl rfl (br_addN (n := 1) (by omega))) ?_
      refine TL.val rfl rfl rfl (Y.move rfl rfl) ?_
      refine TL.nil ?_
      refine TQ.loopF (k + 1) (by omega) (by show l.length - (k + 1) < l.length - k; omega) ⟨rfl, trivial⟩ grw ?_ ?_ ?_
      · kernel_rfl
      · rfl
      · simp only [List.cons_append, List.nil_append]
        exact ett
  · try simp only [decide_eq_true_eq, decide_eq_false_iff_not, Bool.not_eq_true', Bool.not_eq_false', Bool.and_eq_true, Bool.or_eq_true, Nat.not_lt, Nat.not_le, beq_iff_eq, bne_iff_ne] at c3
    refine TC.exit ?_
    refine TQ.then_exit ?_
    refine TQ.then_exit ?_
    refine TQ.block_exit ?_
    refine TQ.next ?_
    refine TC.seq ?_
    refine TC.seq ?_
    refine TC.region ?_
    refine TL.val rfl rfl rfl (by first | exact Y.fieldAddrJ rfl fo46_0 rfl nqq | exact Y.fieldAddr rfl fo46_0 rfl nqq) ?_
    refine TL.val rfl rfl rfl (Y.load rfl sc3 rfl celN) ?_
    refine TL.as (vN 6) (by rfl) ?_
    refine TL.nil ?_
    refine TQ.next ?_
    refine TC.block ?_
    refine TC.seq ?_
    refine TC.region ?_
    refine TL.val rfl rfl rfl (Y.bin rfl rfl rfl (br_eqN (n := 3))) ?_
    refine TL.is false isf ?_
    refine TL.val rfl rfl rfl (Y.assign rfl rfl) ?_
    refine TL.nil ?_
    refine TQ.next ?_
    refine TC.cond_f rfl ?_
    refine TC.seq ?_
    refine TC.region ?_
    refine TL.val rfl rfl rfl (Y.bin rfl rfl rfl (br_eqN (n := 4))) ?_
    refine TL.is false isf ?_
    refine TL.val rfl rfl rfl (Y.assign rfl rfl) ?_
    refine TL.nil ?_
    refine TQ.next ?_
    refine TC.cond_f rfl ?_
    refine TC.seq ?_
    refine TC.region ?_
    refine TL.val rfl rfl rfl (Y.bin rfl rfl rfl (br_eqN (n := 5))) ?_
    refine TL.is false isf ?_
    refine TL.val rfl rfl rfl (Y.assign rfl rfl) ?_
    refine TL.nil ?_
    refine TQ.next ?_
    refine TC.cond_f rfl ?_
    refine TC.seq ?_
    refine TC.region ?_
    refine TL.val rfl rfl rfl (Y.bin rfl rfl rfl (br_eqN (n := 6))) ?_
    refine TL.is true isf ?_
    refine TL.val rfl rfl rfl (Y.assign rfl rfl) ?_
    refine TL.nil ?_
    refine TQ.next ?_
    refine TC.cond_t rfl ?_
    refine TC.seq ?_
    refine TC.region ?_
    refine TL.val rfl rfl rfl (by first | exact Y.fieldAddrJ rfl fo46_12 rfl nqq | exact Y.fieldAddr rfl fo46_12 rfl nqq) ?_
    refine TL.val rfl rfl rfl (Y.load rfl sc23 rfl cel32) ?_
    refine TL.as (v32 r) (by rfl) ?_
    refine TL.val rfl rfl rfl (Y.bin rfl rfl rfl (br_ltN (n := 16777216))) ?_
    refine TL.is true (by (simp; omega)) ?_
    refine TL.val rfl rfl rfl (Y.move rfl rfl) ?_
    refine TL.valG rfl rfl rfl (by first | exact Y.fieldAddrJ rfl fo46_14 rfl nqq | exact Y.fieldAddr rfl fo46_14 rfl nqq) ?_
    refine TL.valG rfl rfl rfl (Y.load rfl sc37 rfl celD) ?_
    refine TL.as (.slice a l.length cap) (by rfl) ?_
    refine TL.valG rfl rfl rfl (Y.len rfl Try.underlying37 rfl) ?_
    refine TL.valG rfl rfl rfl (Y.bin rfl rfl rfl (br_geN (n := 1))) ?_
    refine TL.is true (by (simp; omega)) ?_
    refine TL.val rfl rfl rfl (Y.pick_t rfl rfl rfl) ?_
    refine TL.val rfl rfl rfl (Y.move rfl rfl) ?_
    refine TL.valG rfl rfl rfl (by first | exact Y.fieldAddrJ rfl fo46_14 rfl nqq | exact Y.fieldAddr rfl fo46_14 rfl nqq) ?_
    refine TL.valG rfl rfl rfl (Y.load rfl sc37 rfl celD) ?_
    refine TL.as (.slice a l.length cap) (by rfl) ?_
    refine TL.valG rfl rfl rfl (Y.len rfl Try.underlying37 rfl) ?_
    refine TL.valG rfl rfl rfl (Y.bin rfl rfl rfl (br_leN (n := 255))) ?_
    refine TL.is true (by (simp; omega)) ?_
    refine TL.val rfl rfl rfl (Y.pick_t rfl rfl rfl) ?_
    refine TL.val rfl rfl rfl (Y.assign rfl rfl) ?_
    refine TL.nil ?_
    refine TQ.next ?_
    refine TC.ret ?_
    refine TQ.block_ret ?_
    refine TQ.then_ret ?_
    refine TQ.retE (res1 rfl rfl) (⟨rfl, rfl⟩) ?_
    exact ett
end tw
end Go.Proofs.Ythamkpjiecigjaa

/- twcc, read and written: the marks and distances of arrivals, written; walked. -/
namespace Go.Proofs.Ythamkpjiecigjaa
set_option linter.unusedVariables false
set_option linter.unusedSimpArgs false
open Go.RowKit
namespace tw
namespace FxTr3
set_option maxRecDepth 100000
theorem el52 : Elt Try.prog 52 5 1 1 (.int .u8 0) := ⟨Try.underlying52, by kernel_rfl, rfl, by decide, by simp [Value.cells, Value.oneCell']⟩
theorem sc3 : Program.isSc Try.prog 3 = true := by kernel_rfl
theorem sl37 : Program.slI Try.prog 37 = some 1 := by kernel_rfl
end FxTr3
open FxTr3
theorem br_shrI {x : Int} {k : IntKind} : BR .shr .i64 x k 8 (.int .i64 (x / 256)) := fun P w t => by
  have hneg : ¬ ((8 : Int) < 0) := by decide
  show (Op.shift .shr .i64 x k (8 : Int)).run P w = _
  unfold Op.shift
  rw [if_neg hneg]
  show Result.ok (Value.int .i64 (x.fdiv (2 ^ (min (8 : Int).toNat 64)))) w = _
  rw [Int.fdiv_eq_ediv_of_nonneg _ (by exact Int.le_of_lt (Int.pow_pos (by decide)))]
  rfl
theorem byte_v (x : Int) : IntKind.u8.wrap x = ((byteI x).toNat : Int) := by
  rw [wrap_u8, byteI, UInt8.toNat_ofNat_of_lt' (by show _ < 256; omega)]; omega
theorem mkAt_of {l : List Int} {i : Nat} {x : Int} (h : l[i]? = some x) : mkAt l i = mk x := by unfold mkAt; rw [h]; rfl
theorem mkAt_none {l : List Int} {i : Nat} (h : l.length ≤ i) : mkAt l i = 0 := by unfold mkAt; rw [List.getElem?_eq_none h]; rfl
theorem farL_le (l : List Int) (k : Nat) : (farL (l.take k)).length ≤ 2 * l.length := by
  have h1 := farL_len (l.take k)
  rw [List.length_take] at h1; omega
theorem out_none {l : List Int} {j k : Nat} (h : l.length ≤ 7 * j + k) : mkw l j (k + 1) = mkw l j k ∧ farL (l.take (7 * j + (k + 1))) = farL (l.take (7 * j + k)) := by
  refine ⟨by rw [mkw, mkAt_none h]; omega, ?_⟩
  rw [List.take_of_length_le h, List.take_of_length_le (by omega)]
theorem out_lost {l : List Int} {j k : Nat} {x : Int} (hx : l[7 * j + k]? = some x) (h : x = 65536) : mkw l j (k + 1) = mkw l j k ∧ farL (l.take (7 * j + (k + 1))) = farL (l.take (7 * j + k)) := by
  subst h
  refine ⟨by rw [mkw, mkAt_of hx]; show _ + 0 * _ = _; omega, ?_⟩
  rw [← Nat.add_assoc, farL_s l _ _ hx]
  show _ ++ [] = _
  rw [List.append_nil]
theorem farB_in {x : Int} (h : ¬ x = 65536) (hr : 0 ≤ x ∧ x ≤ 255) : farB x = [byteI x] ∧ mk x = 1 := by
  unfold farB mk
  rw [if_neg h, if_neg h, if_pos hr, if_pos hr]; exact ⟨rfl, rfl⟩
theorem farB_out {x : Int} (h : ¬ x = 65536) (hr : ¬ (0 ≤ x ∧ x ≤ 255)) : farB x = [byteI (x / 256), byteI x] ∧ mk x = 2 := by
  unfold farB mk
  rw [if_neg h, if_neg h, if_neg hr, if_neg hr]; exact ⟨rfl, rfl⟩
set_option maxHeartbeats 4000000 in
theorem arrivals_fn (a : Option Addr) (cap : Nat) (l : List Int) (h2 : l.length ≤ 255) (hf : Fit l) (L : List SA) :
    Fn Try.prog 41 [.slice a l.length cap] (SA.rds 1 (.slice a l.length cap) l.length (l.map vI) :: L)
      (fun v L' => ∃ a' c', v = .slice a' (arrB l).length c' ∧ L' = SA.owns 5 1 (.slice a' (arrB l).length c') (arrB l).length ((arrB l).map v8) :: SA.rds 1 (.slice a l.length cap) l.length (l.map vI) :: L) := by
  refine Fn.of (N := 93) Try.func41 rfl rfl ?_
  intro Xh
  have hRd : Reads (SA.rds 1 (.slice a l.length cap) l.length (l.map vI)) 1 (.slice a l.length cap) l.length (l.map vI) := Reads.rds
  refine TC.seq ?_
  refine TC.region ?_
  refine TL.val rfl rfl rfl (Y.assign rfl rfl) ?_
  refine TL.nil ?_
  refine TQ.next ?_
  refine TC.seq ?_
  refine TC.region ?_
  refine TL.val rfl rfl rfl (Y.assign rfl rfl) ?_
  refine TL.val rfl rfl rfl (Y.assign rfl rfl) ?_
  refine TL.nil ?_
  refine TQ.next ?_
  refine TC.seq ?_
  refine TC.seq ?_
  refine TC.region ?_
  refine TL.val rfl rfl rfl (Y.assign rfl rfl) ?_
  refine TL.nil ?_
  refine TQ.next ?_
  refine TC.block ?_
  refine TC.to (Ent.nilOwn 5 1) ?_
  refine TC.to (Ent.nilOwn 5 1) ?_
  refine TC.loopF (ι := Nat × (Option Addr × Nat) × Option Addr × Nat) [] (fun i => i.1 ≤ rows l.length) (fun i => [(5, some (vN (7 * i.1))), (3, some (.slice i.2.1.1 (marksN l i.1).length i.2.1.2)), (4, some (.slice i.2.2.1 (farL (l.take (7 * i.1))).length i.2.2.2))]) (fun i => [SA.owns 5 1 (.slice i.2.1.1 (marksN l i.1).length i.2.1.2) (marksN l i.1).length ((marksN l i.1).map v8), SA.owns 5 1 (.slice i.2.2.1 (farL (l.take (7 * i.1))).length i.2.2.2) (farL (l.take (7 * i.1))).length ((farL (l.take (7 * i.1))).map v8)]) (fun i => rows l.length - i.1) ((0, (none, 0), none, 0)) (Nat.zero_le _) ⟨rfl, rfl, rfl, trivial⟩ (Pulls.cons pul (Pulls.cons pul Pulls.nil)) ?_
  rintro ⟨j, ⟨ma, mc⟩, fa, fc⟩ hj F' L' rfl hL'
  simp only [List.cons_append, List.nil_append] at hL'
  subst hL'
  simp only at hj ⊢
  have hml := marksN_len l j
  have hrw : rows l.length = (l.length + 6) / 7 := rfl
  refine TC.seq ?_
  refine TC.seq ?_
  refine TC.region ?_
  refine TL.val rfl rfl rfl (Y.move rfl rfl) ?_
  refine TL.val rfl rfl rfl (Y.move rfl rfl) ?_
  refine TL.val rfl rfl rfl (Y.len rfl Try.underlying37 rfl) ?_
  refine TL.as (vN l.length) (by rfl) ?_
  refine TL.val rfl rfl rfl (Y.bin rfl rfl rfl (br_ltN)) ?_
  refine TL.nil ?_
  refine TQ.next ?_
  refine TC.cond rfl (fun c0 => ?_) (fun c0 => ?_)
  · try simp only [decide_eq_true_eq, decide_eq_false_iff_not, Bool.not_eq_true', Bool.not_eq_false', Bool.and_eq_true, Bool.or_eq_true, Nat.not_lt, Nat.not_le, beq_iff_eq, bne_iff_ne] at c0
    refine TC.skip ?_
    refine TQ.next ?_
    refine TC.seq ?_
    refine TC.block ?_
    refine TC.seq ?_
    refine TC.region ?_
    refine TL.val rfl rfl rfl (Y.assign rfl rfl) ?_
    refine TL.nil ?_
    refine TQ.next ?_
    refine TC.seq ?_
    refine TC.seq ?_
    refine TC.region ?_
    refine TL.val rfl rfl rfl (Y.move rfl rfl) ?_
    refine TL.nil ?_
    refine TQ.next ?_
    refine TC.block ?_
    refine TC.loopF (ι := Nat × Option Addr × Nat) [] (fun i => i.1 ≤ 7) (fun i => [(15, some (vN i.1)), (6, some (vN (mkw l j i.1))), (4, some (.slice i.2.1 (farL (l.take (7 * j + i.1))).length i.2.2))]) (fun i => [SA.owns 5 1 (.slice i.2.1 (farL (l.take (7 * j + i.1))).length i.2.2) (farL (l.take (7 * j + i.1))).length ((farL (l.take (7 * j + i.1))).map v8)]) (fun i => 7 - i.1) ((0, fa, fc)) (Nat.zero_le _) ⟨rfl, rfl, rfl, trivial⟩ (Pulls.cons pul Pulls.nil) ?_
    rintro ⟨k, ea, ec⟩ hk F' L' rfl hL'
    simp only [List.cons_append, List.nil_append] at hL'
    subst hL'
    simp only at hk ⊢
    have hwl := mkw_lt l j k hk
    have hfl := farL_le l (7 * j + k)
    refine TC.seq ?_
    refine TC.region ?_
    refine TL.val rfl rfl rfl (Y.bin rfl rfl rfl (br_ltN (n := 7))) ?_
    refine TL.nil ?_
    refine TQ.next ?_
    refine TC.seq ?_
    refine TC.cond rfl (fun c1 => ?_) (fun c1 => ?_)
    · try simp only [decide_eq_true_eq, decide_eq_false_iff_not, Bool.not_eq_true', Bool.not_eq_false', Bool.and_eq_true, Bool.or_eq_true, Nat.not_lt, Nat.not_le, beq_iff_eq, bne_iff_ne] at c1
      refine TC.skip ?_
      refine TQ.next ?_
      refine TC.seq ?_
      refine TC.block ?_
      refine TC.seq ?_
      refine TC.region ?_
      refine TL.val rfl rfl rfl (Y.move rfl rfl) ?_
      refine TL.val rfl rfl rfl (Y.assign rfl rfl) ?_
      refine TL.nil ?_
      refine TQ.next ?_
      refine TC.seq ?_
      refine TC.seq ?_
      refine TC.region ?_
      refine TL.val rfl rfl rfl (Y.move rfl rfl) ?_
      refine TL.val rfl rfl rfl (Y.move rfl rfl) ?_
      refine TL.val rfl rfl rfl (Y.bin rfl rfl rfl (br_addN (by omega))) ?_
      refine TL.val rfl rfl rfl (Y.move rfl rfl) ?_
      refine TL.val rfl rfl rfl (Y.len rfl Try.underlying37 rfl) ?_
      refine TL.as (vN l.length) (by rfl) ?_
      refine TL.val rfl rfl rfl (Y.bin rfl rfl rfl (br_geN)) ?_
      refine TL.val rfl rfl rfl (Y.move rfl rfl) ?_
      refine TL.case (fun g9_6 => ?_) (fun g9_6 => ?_)
      · try simp only [decide_eq_true_eq, decide_eq_false_iff_not, Bool.not_eq_true', Bool.not_eq_false', Nat.not_lt, Nat.not_le, beq_iff_eq, bne_iff_ne] at g9_6
        refine TL.not rfl rfl rfl ?_
        refine TL.not rfl rfl rfl ?_
        refine TL.not rfl rfl rfl ?_
        refine TL.not rfl rfl rfl ?_
        refine TL.not rfl rfl rfl ?_
        refine TL.not rfl rfl rfl ?_
        refine TL.not rfl rfl rfl ?_
        refine TL.val rfl rfl rfl (Y.pick_t rfl rfl rfl) ?_
        refine TL.nil ?_
        refine TQ.next ?_
        refine TC.cond_t rfl ?_
        refine TC.exit ?_
        refine TQ.then_exit ?_
        refine TQ.block_exit ?_
        refine TQ.next ?_
        refine TC.region ?_
        refine TL.val rfl rfl rfl (Y.bin rfl rfl rfl (br_addN (n := 1) (by omega))) ?_
        refine TL.val rfl rfl rfl (Y.move rfl rfl) ?_
        refine TL.nil ?_
        refine TQ.loopF ((by first | exact (k + 1, a58, c58) | exact (k + 1, a76, c76) | exact (k + 1, ea, ec))) (by show k + 1 ≤ 7; omega) (by show 7 - (k + 1) < 7 - k; omega) (by first | exact ⟨rfl, (by rw [(out_none g9_6).1]; rfl), (by rw [(out_none g9_6).2]; rfl), trivial⟩ | exact ⟨rfl, (by rw [(out_lost hx c2).1]; rfl), (by rw [(out_lost hx c2).2]; rfl), trivial⟩ | exact ⟨rfl, rfl, rfl, trivial⟩) grw ?_ ?_ ?_
        · kernel_rfl
        · rfl
        · simp only [List.cons_append, List.nil_append]
          exact (by first | (rw [(out_none g9_6).2]; exact ett) | (rw [(out_lost hx c2).2]; exact ett) | exact ett)
      · try simp only [decide_eq_true_eq, decide_eq_false_iff_not, Bool.not_eq_true', Bool.not_eq_false', Nat.not_lt, Nat.not_le, beq_iff_eq, bne_iff_ne] at g9_6
        have hlt : 7 * j + k < l.length := by omega
        obtain ⟨x, hx, hxm⟩ := getS (l := l) (i := 7 * j + k) hlt
        have hfx := hf x hxm
        have hfs := farL_s l (7 * j + k) x hx
        have hmx := mkAt_of hx
        refine TL.know (reads_some hRd (a := a) (n := l.length) (cap := cap) (cs := l.map vI) inn (by omega) (by decide)) ?_
        rintro ⟨g, off, rfl⟩
        refine TL.valG rfl rfl rfl (Y.move rfl rfl) ?_
        refine TL.as (.slice (some ⟨g, off, none⟩) l.length cap) (by rfl) ?_
        refine TL.valG rfl rfl rfl (Y.move rfl rfl) ?_
        refine TL.valG rfl rfl rfl (Y.move rfl rfl) ?_
        refine TL.valG rfl rfl rfl (Y.bin rfl rfl rfl (br_addN (by omega))) ?_
        refine TL.valG rfl rfl rfl (by first | exact Y.indexSlB rfl sl37 rfl rfl (by omega) nqq | exact Y.indexSl rfl sl37 rfl rfl (by omega) nqq) ?_
        refine TL.valG rfl rfl rfl (Y.load rfl sc3 rfl (Cel.atS (l := l) hRd inn hx rfl)) ?_
        refine TL.as (vI x) (by rfl) ?_
        refine TL.valG rfl rfl rfl (Y.bin rfl rfl rfl (br_eqI (n := 65536))) ?_
        refine TL.val rfl rfl rfl (Y.pick_f rfl rfl rfl) ?_
        refine TL.nil ?_
        refine TQ.next ?_
        refine TC.cond rfl (fun c2 => ?_) (fun c2 => ?_)
        · try simp only [decide_eq_true_eq, decide_eq_false_iff_not, Bool.not_eq_true', Bool.not_eq_false', Bool.and_eq_true, Bool.or_eq_true, Nat.not_lt, Nat.not_le, beq_iff_eq, bne_iff_ne] at c2
          refine TC.exit ?_
          refine TQ.then_exit ?_
          refine TQ.block_exit ?_
          refine TQ.next ?_
          refine TC.region ?_
          refine TL.val rfl rfl rfl (Y.bin rfl rfl rfl (br_addN (n := 1) (by omega))) ?_
          refine TL.val rfl rfl rfl (Y.move rfl rfl) ?_
          refine TL.nil ?_
          refine TQ.loopF ((by first | exact (k + 1, a58, c58) | exact (k + 1, a76, c76) | exact (k + 1, ea, ec))) (by show k + 1 ≤ 7; omega) (by show 7 - (k + 1) < 7 - k; omega) (by first | exact ⟨rfl, (by rw [(out_none g9_6).1]; rfl), (by rw [(out_none g9_6).2]; rfl), trivial⟩ | exact ⟨rfl, (by rw [(out_lost hx c2).1]; rfl), (by rw [(out_lost hx c2).2]; rfl), trivial⟩ | exact ⟨rfl, rfl, rfl, trivial⟩) grw ?_ ?_ ?_
          · kernel_rfl
          · rfl
          · simp only [List.cons_append, List.nil_append]
            exact (by first | (rw [(out_none g9_6).2]; exact ett) | (rw [(out_lost hx c2).2]; exact ett) | exact ett)
        · try simp only [decide_eq_true_eq, decide_eq_false_iff_not, Bool.not_eq_true', Bool.not_eq_false', Bool.and_eq_true, Bool.or_eq_true, Nat.not_lt, Nat.not_le, beq_iff_eq, bne_iff_ne] at c2
          refine TC.skip ?_
          refine TQ.next ?_
          refine TC.seq ?_
          refine TC.region ?_
          refine TL.val rfl rfl rfl (Y.assign rfl rfl) ?_
          refine TL.nil ?_
          refine TQ.next ?_
          refine TC.seq ?_
          refine TC.seq ?_
          refine TC.region ?_
          refine TL.val rfl rfl rfl (Y.move rfl rfl) ?_
          refine TL.as (.slice (some ⟨g, off, none⟩) l.length cap) (by rfl) ?_
          refine TL.val rfl rfl rfl (Y.move rfl rfl) ?_
          refine TL.val rfl rfl rfl (Y.move rfl rfl) ?_
          refine TL.val rfl rfl rfl (Y.bin rfl rfl rfl (br_addN (by omega))) ?_
          refine TL.val rfl rfl rfl (by first | exact Y.indexSlB rfl sl37 rfl rfl (by omega) nqq | exact Y.indexSl rfl sl37 rfl rfl (by omega) nqq) ?_
          refine TL.val rfl rfl rfl (Y.load rfl sc3 rfl (Cel.atS (l := l) hRd inn hx rfl)) ?_
          refine TL.as (vI x) (by rfl) ?_
          refine TL.val rfl rfl rfl (Y.bin rfl rfl rfl (br_geI (n := 0))) ?_
          refine TL.val rfl rfl rfl (Y.move rfl rfl) ?_
          refine TL.case (fun g11_7 => ?_) (fun g11_7 => ?_)
          · try simp only [decide_eq_true_eq, decide_eq_false_iff_not, Bool.not_eq_true', Bool.not_eq_false', Nat.not_lt, Nat.not_le, beq_iff_eq, bne_iff_ne] at g11_7
            refine TL.valG rfl rfl rfl (Y.move rfl rfl) ?_
            refine TL.as (.slice (some ⟨g, off, none⟩) l.length cap) (by rfl) ?_
            refine TL.valG rfl rfl rfl (Y.move rfl rfl) ?_
            refine TL.valG rfl rfl rfl (Y.move rfl rfl) ?_
            refine TL.valG rfl rfl rfl (Y.bin rfl rfl rfl (br_addN (by omega))) ?_
            refine TL.valG rfl rfl rfl (by first | exact Y.indexSlB rfl sl37 rfl rfl (by omega) nqq | exact Y.indexSl rfl sl37 rfl rfl (by omega) nqq) ?_
            refine TL.valG rfl rfl rfl (Y.load rfl sc3 rfl (Cel.atS (l := l) hRd inn hx rfl)) ?_
            refine TL.as (vI x) (by rfl) ?_
            refine TL.valG rfl rfl rfl (Y.bin rfl rfl rfl (br_leI (n := 255))) ?_
            refine TL.val rfl rfl rfl (Y.pick_t rfl rfl rfl) ?_
            refine TL.nil ?_
            refine TQ.next ?_
            refine TC.cond rfl (fun c3 => ?_) (fun c3 => ?_)
            · try simp only [decide_eq_true_eq, decide_eq_false_iff_not, Bool.not_eq_true', Bool.not_eq_false', Bool.and_eq_true, Bool.or_eq_true, Nat.not_lt, Nat.not_le, beq_iff_eq, bne_iff_ne] at c3
              refine TC.seq ?_
              refine TC.region ?_
              refine TL.val rfl rfl rfl (Y.assign rfl rfl) ?_
              refine TL.nil ?_
              refine TQ.next ?_
              obtain ⟨hB, hmk⟩ := farB_in (x := x) c2 (by omega)
              refine TC.region ?_
              refine TL.val rfl rfl rfl (Y.move rfl rfl) ?_
              refine TL.val rfl rfl rfl (Y.move rfl rfl) ?_
              refine TL.as (.slice (some ⟨g, off, none⟩) l.length cap) (by rfl) ?_
              refine TL.val rfl rfl rfl (Y.move rfl rfl) ?_
              refine TL.val rfl rfl rfl (Y.move rfl rfl) ?_
              refine TL.val rfl rfl rfl (Y.bin rfl rfl rfl (br_addN (by omega))) ?_
              refine TL.val rfl rfl rfl (by first | exact Y.indexSlB rfl sl37 rfl rfl (by omega) nqq | exact Y.indexSl rfl sl37 rfl rfl (by omega) nqq) ?_
              refine TL.val rfl rfl rfl (Y.load rfl sc3 rfl (Cel.atS (l := l) hRd inn hx rfl)) ?_
              refine TL.as (vI x) (by rfl) ?_
              refine TL.val rfl rfl rfl (Y.conv rfl Try.underlying3 Try.underlying5 rfl (byte_v x)) ?_
              refine TL.eff rfl rfl rfl (X.lit rfl el52 rfl rfl rfl (by decide) rfl) ?_
              rintro _ _ ⟨g57, rfl, rfl⟩
              refine TL.eff rfl rfl rfl (X.appendS rfl el52 rfl pul rfl (by first | exact Src.owns Try.underlying52 inn | exact Src.rds Try.underlying52 inn | exact Src.reads (by assumption) Try.underlying52 inn) (by simp only [maxLen]; omega) (by omega)) ?_
              rintro _ _ ⟨a58, c58, rfl, rfl⟩
              rw [show (farL (l.take (7 * j + k))).map v8 ++ [v8 (byteI x)] = (farL (l.take (7 * j + (k + 1)))).map v8 by rw [← Nat.add_assoc, hfs, hB, List.map_append]; rfl, show (farL (l.take (7 * j + k))).length + 1 = (farL (l.take (7 * j + (k + 1)))).length by rw [← Nat.add_assoc, hfs, hB, List.length_append]; rfl]
              refine TL.val rfl rfl rfl (Y.assign rfl rfl) ?_
              refine TL.nil ?_
              refine TQ.next ?_
              obtain ⟨pq, hpq, hpw⟩ : ∃ q, 2 ^ (12 - 2 * k) = q ∧ q ≤ 4096 := ⟨_, rfl, Nat.pow_le_pow_right (n := 2) (by decide) (show 12 - 2 * k ≤ 12 by omega)⟩
              refine TC.region ?_
              refine TL.val rfl rfl rfl (Y.move rfl rfl) ?_
              refine TL.val rfl rfl rfl (Y.move rfl rfl) ?_
              refine TL.val rfl rfl rfl (Y.move rfl rfl) ?_
              refine TL.val rfl rfl rfl (Y.bin rfl rfl rfl (br_mulN (m := 2) (by omega))) ?_
              refine TL.val rfl rfl rfl (Y.bin rfl rfl rfl (br_subN (m := 12) (by omega) (by omega))) ?_
              refine TL.val rfl rfl rfl (Y.conv rfl Try.underlying3 Try.underlying106 rfl (cv_N_64n (by omega))) ?_
              refine TL.val rfl rfl rfl (by first | exact Y.bin rfl rfl rfl (br_shlN (m := 1) (n := 12 - 2 * k) (c := pq) hpq (by omega) (by omega)) | exact Y.bin rfl rfl rfl (br_shlN (m := 2) (n := 12 - 2 * k) (c := pq) hpq (by omega) (by omega))) ?_
              refine TL.val rfl rfl rfl (Y.bin rfl rfl rfl (br_addN (by omega))) ?_
              refine TL.as (vN (mkw l j (k + 1))) (by (rw [mkw, hmx, hmk, hpq])) ?_
              refine TL.val rfl rfl rfl (Y.assign rfl rfl) ?_
              refine TL.nil ?_
              refine TQ.block_normal ?_
              refine TQ.next ?_
              refine TC.region ?_
              refine TL.val rfl rfl rfl (Y.bin rfl rfl rfl (br_addN (n := 1) (by omega))) ?_
              refine TL.val rfl rfl rfl (Y.move rfl rfl) ?_
              refine TL.nil ?_
              refine TQ.loopF ((by first | exact (k + 1, a58, c58) | exact (k + 1, a76, c76) | exact (k + 1, ea, ec))) (by show k + 1 ≤ 7; omega) (by show 7 - (k + 1) < 7 - k; omega) (by first | exact ⟨rfl, (by rw [(out_none g9_6).1]; rfl), (by rw [(out_none g9_6).2]; rfl), trivial⟩ | exact ⟨rfl, (by rw [(out_lost hx c2).1]; rfl), (by rw [(out_lost hx c2).2]; rfl), trivial⟩ | exact ⟨rfl, rfl, rfl, trivial⟩) grw ?_ ?_ ?_
              · kernel_rfl
              · rfl
              · simp only [List.cons_append, List.nil_append]
                exact (by first | (rw [(out_none g9_6).2]; exact ett) | (rw [(out_lost hx c2).2]; exact ett) | exact ett)
            · try simp only [decide_eq_true_eq, decide_eq_false_iff_not, Bool.not_eq_true', Bool.not_eq_false', Bool.and_eq_true, Bool.or_eq_true, Nat.not_lt, Nat.not_le, beq_iff_eq, bne_iff_ne] at c3
              obtain ⟨hB, hmk⟩ := farB_out (x := x) c2 (by omega)
              refine TC.draws 17 [SA.rds 1 (.slice (some ⟨g, off, none⟩) l.length cap) l.length (l.map vI)] (by kernel_rfl) (by kernel_rfl) hld ?_
              refine TA.tk 0 rfl rfl (Y.move rfl rfl) ?_
              refine TA.tp 1 rfl rfl (Y.move rfl rfl) ?_
              refine TA.as (.slice (some ⟨g, off, none⟩) l.length cap) (by rfl) ?_
              refine TA.tp 2 rfl rfl (Y.move rfl rfl) ?_
              refine TA.tp 3 rfl rfl (Y.move rfl rfl) ?_
              refine TA.tp 4 rfl rfl (Y.bin rfl rfl rfl (br_addN (by omega))) ?_
              refine TA.tp 5 rfl rfl (by first | exact Y.indexSlB rfl sl37 rfl rfl (by omega) nqq | exact Y.indexSl rfl sl37 rfl rfl (by omega) nqq) ?_
              refine TA.tp 9 rfl rfl (Y.move rfl rfl) ?_
              refine TA.as (.slice (some ⟨g, off, none⟩) l.length cap) (by rfl) ?_
              refine TA.tp 10 rfl rfl (Y.move rfl rfl) ?_
              refine TA.tp 11 rfl rfl (Y.move rfl rfl) ?_
              refine TA.tp 12 rfl rfl (Y.bin rfl rfl rfl (br_addN (by omega))) ?_
              refine TA.tp 13 rfl rfl (by first | exact Y.indexSlB rfl sl37 rfl rfl (by omega) nqq | exact Y.indexSl rfl sl37 rfl rfl (by omega) nqq) ?_
              refine TA.any (rs := [6, 14]) (by kernel_rfl) (by simp) ?_
              simp only [List.forall_mem_cons, List.not_mem_nil, false_implies, implies_true, and_true]
              refine ⟨?_, ?_⟩
              · skip
                refine TAo.eff rfl rfl rfl rfl (Eff.val (fun _ h => by cases h) (Y.load rfl sc3 rfl (Cel.atS (l := l) hRd inn hx rfl))) ?_
                rintro _ _ ⟨rfl, rfl⟩
                refine ⟨Or.inr hld, ?_⟩
                refine TA.as (vI x) (by rfl) ?_
                refine TA.tp 7 rfl rfl (Y.bin rfl rfl rfl br_shrI) ?_
                refine TA.tp 8 rfl rfl (Y.conv rfl Try.underlying3 Try.underlying5 rfl (byte_v (x / 256))) ?_
                refine TA.one 14 (by kernel_rfl) rfl rfl rfl rfl (Eff.val (fun _ h => by cases h) (Y.load rfl sc3 rfl (Cel.atS (l := l) hRd inn hx rfl))) ?_
                rintro _ _ ⟨rfl, rfl⟩
                refine ⟨Or.inr hld, ?_⟩
                refine TA.as (vI x) (by rfl) ?_
                refine TA.tp 15 rfl rfl (Y.conv rfl Try.underlying3 Try.underlying5 rfl (byte_v x)) ?_
                refine TA.one 16 (by kernel_rfl) rfl rfl rfl rfl (X.lit rfl el52 rfl rfl rfl (by decide) rfl) ?_
                rintro _ _ ⟨g75, rfl, rfl⟩
                refine ⟨(Or.inr hld), ?_⟩
                refine TA.one 17 (by kernel_rfl) rfl rfl rfl rfl (X.appendS rfl el52 rfl pul rfl (by first | exact Src.owns Try.underlying52 inn | exact Src.rds Try.underlying52 inn | exact Src.reads (by assumption) Try.underlying52 inn) (by simp only [maxLen]; omega) (by omega)) ?_
                rintro _ _ ⟨a76, c76, rfl, rfl⟩
                rw [show (farL (l.take (7 * j + k))).map v8 ++ [v8 (byteI (x / 256)), v8 (byteI x)] = (farL (l.take (7 * j + (k + 1)))).map v8 by rw [← Nat.add_assoc, hfs, hB, List.map_append]; rfl, show (farL (l.take (7 * j + k))).length + 2 = (farL (l.take (7 * j + (k + 1)))).length by rw [← Nat.add_assoc, hfs, hB, List.length_append]; rfl]
                refine ⟨(Or.inl (by kernel_rfl)), ?_⟩
                refine TA.tp 18 rfl rfl (Y.assign rfl rfl) ?_
                refine TA.done (by kernel_rfl) ?_
                refine TQ.next ?_
                obtain ⟨pq, hpq, hpw⟩ : ∃ q, 2 ^ (12 - 2 * k) = q ∧ q ≤ 4096 := ⟨_, rfl, Nat.pow_le_pow_right (n := 2) (by decide) (show 12 - 2 * k ≤ 12 by omega)⟩
                refine TC.region ?_
                refine TL.val rfl rfl rfl (Y.move rfl rfl) ?_
                refine TL.val rfl rfl rfl (Y.move rfl rfl) ?_
                refine TL.val rfl rfl rfl (Y.move rfl rfl) ?_
                refine TL.val rfl rfl rfl (Y.bin rfl rfl rfl (br_mulN (m := 2) (by omega))) ?_
                refine TL.val rfl rfl rfl (Y.bin rfl rfl rfl (br_subN (m := 12) (by omega) (by omega))) ?_
                refine TL.val rfl rfl rfl (Y.conv rfl Try.underlying3 Try.underlying106 rfl (cv_N_64n (by omega))) ?_
                refine TL.val rfl rfl rfl (by first | exact Y.bin rfl rfl rfl (br_shlN (m := 1) (n := 12 - 2 * k) (c := pq) hpq (by omega) (by omega)) | exact Y.bin rfl rfl rfl (br_shlN (m := 2) (n := 12 - 2 * k) (c := pq) hpq (by omega) (by omega))) ?_
                refine TL.val rfl rfl rfl (Y.bin rfl rfl rfl (br_addN (by omega))) ?_
                refine TL.as (vN (mkw l j (k + 1))) (by (rw [mkw, hmx, hmk, hpq])) ?_
                refine TL.val rfl rfl rfl (Y.assign rfl rfl) ?_
                refine TL.nil ?_
                refine TQ.block_normal ?_
                refine TQ.next ?_
                refine TC.region ?_
                refine TL.val rfl rfl rfl (Y.bin rfl rfl rfl (br_addN (n := 1) (by omega))) ?_
                refine TL.val rfl rfl rfl (Y.move rfl rfl) ?_
                refine TL.nil ?_
                refine TQ.loopF ((by first | exact (k + 1, a58, c58) | exact (k + 1, a76, c76) | exact (k + 1, ea, ec))) (by show k + 1 ≤ 7; omega) (by show 7 - (k + 1) < 7 - k; omega) (by first | exact ⟨rfl, (by rw [(out_none g9_6).1]; rfl), (by rw [(out_none g9_6).2]; rfl), trivial⟩ | exact ⟨rfl, (by rw [(out_lost hx c2).1]; rfl), (by rw [(out_lost hx c2).2]; rfl), trivial⟩ | exact ⟨rfl, rfl, rfl, trivial⟩) grw ?_ ?_ ?_
                · kernel_rfl
                · rfl
                · simp only [List.cons_append, List.nil_append]
                  exact (by first | (rw [(out_none g9_6).2]; exact ett) | (rw [(out_lost hx c2).2]; exact ett) | exact ett)
              · skip
                refine TAo.eff rfl rfl rfl rfl (Eff.val (fun _ h => by cases h) (Y.load rfl sc3 rfl (Cel.atS (l := l) hRd inn hx rfl))) ?_
                rintro _ _ ⟨rfl, rfl⟩
                refine ⟨Or.inr hld, ?_⟩
                refine TA.as (vI x) (by rfl) ?_
                refine TA.tp 15 rfl rfl (Y.conv rfl Try.underlying3 Try.underlying5 rfl (byte_v x)) ?_
                refine TA.one 6 (by kernel_rfl) rfl rfl rfl rfl (Eff.val (fun _ h => by cases h) (Y.load rfl sc3 rfl (Cel.atS (l := l) hRd inn hx rfl))) ?_
                rintro _ _ ⟨rfl, rfl⟩
                refine ⟨Or.inr hld, ?_⟩
                refine TA.as (vI x) (by rfl) ?_
                refine TA.tp 7 rfl rfl (Y.bin rfl rfl rfl br_shrI) ?_
                refine TA.tp 8 rfl rfl (Y.conv rfl Try.underlying3 Try.underlying5 rfl (byte_v (x / 256))) ?_
                refine TA.one 16 (by kernel_rfl) rfl rfl rfl rfl (X.lit rfl el52 rfl rfl rfl (by decide) rfl) ?_
                rintro _ _ ⟨g75, rfl, rfl⟩
                refine ⟨(Or.inr hld), ?_⟩
                refine TA.one 17 (by kernel_rfl) rfl rfl rfl rfl (X.appendS rfl el52 rfl pul rfl (by first | exact Src.owns Try.underlying52 inn | exact Src.rds Try.underlying52 inn | exact Src.reads (by assumption) Try.underlying52 inn) (by simp only [maxLen]; omega) (by omega)) ?_
                rintro _ _ ⟨a76, c76, rfl, rfl⟩
                rw [show (farL (l.take (7 * j + k))).map v8 ++ [v8 (byteI (x / 256)), v8 (byteI x)] = (farL (l.take (7 * j + (k + 1)))).map v8 by rw [← Nat.add_assoc, hfs, hB, List.map_append]; rfl, show (farL (l.take (7 * j + k))).length + 2 = (farL (l.take (7 * j + (k + 1)))).length by rw [← Nat.add_assoc, hfs, hB, List.length_append]; rfl]
                refine ⟨(Or.inl (by kernel_rfl)), ?_⟩
                refine TA.tp 18 rfl rfl (Y.assign rfl rfl) ?_
                refine TA.done (by kernel_rfl) ?_
                refine TQ.next ?_
                obtain ⟨pq, hpq, hpw⟩ : ∃ q, 2 ^ (12 - 2 * k) = q ∧ q ≤ 4096 := ⟨_, rfl, Nat.pow_le_pow_right (n := 2) (by decide) (show 12 - 2 * k ≤ 12 by omega)⟩
                refine TC.region ?_
                refine TL.val rfl rfl rfl (Y.move rfl rfl) ?_
                refine TL.val rfl rfl rfl (Y.move rfl rfl) ?_
                refine TL.val rfl rfl rfl (Y.move rfl rfl) ?_
                refine TL.val rfl rfl rfl (Y.bin rfl rfl rfl (br_mulN (m := 2) (by omega))) ?_
                refine TL.val rfl rfl rfl (Y.bin rfl rfl rfl (br_subN (m := 12) (by omega) (by omega))) ?_
                refine TL.val rfl rfl rfl (Y.conv rfl Try.underlying3 Try.underlying106 rfl (cv_N_64n (by omega))) ?_
                refine TL.val rfl rfl rfl (by first | exact Y.bin rfl rfl rfl (br_shlN (m := 1) (n := 12 - 2 * k) (c := pq) hpq (by omega) (by omega)) | exact Y.bin rfl rfl rfl (br_shlN (m := 2) (n := 12 - 2 * k) (c := pq) hpq (by omega) (by omega))) ?_
                refine TL.val rfl rfl rfl (Y.bin rfl rfl rfl (br_addN (by omega))) ?_
                refine TL.as (vN (mkw l j (k + 1))) (by (rw [mkw, hmx, hmk, hpq])) ?_
                refine TL.val rfl rfl rfl (Y.assign rfl rfl) ?_
                refine TL.nil ?_
                refine TQ.block_normal ?_
                refine TQ.next ?_
                refine TC.region ?_
                refine TL.val rfl rfl rfl (Y.bin rfl rfl rfl (br_addN (n := 1) (by omega))) ?_
                refine TL.val rfl rfl rfl (Y.move rfl rfl) ?_
                refine TL.nil ?_
                refine TQ.loopF ((by first | exact (k + 1, a58, c58) | exact (k + 1, a76, c76) | exact (k + 1, ea, ec))) (by show k + 1 ≤ 7; omega) (by show 7 - (k + 1) < 7 - k; omega) (by first | exact ⟨rfl, (by rw [(out_none g9_6).1]; rfl), (by rw [(out_none g9_6).2]; rfl), trivial⟩ | exact ⟨rfl, (by rw [(out_lost hx c2).1]; rfl), (by rw [(out_lost hx c2).2]; rfl), trivial⟩ | exact ⟨rfl, rfl, rfl, trivial⟩) grw ?_ ?_ ?_
                · kernel_rfl
                · rfl
                · simp only [List.cons_append, List.nil_append]
                  exact (by first | (rw [(out_none g9_6).2]; exact ett) | (rw [(out_lost hx c2).2]; exact ett) | exact ett)
          · try simp only [decide_eq_true_eq, decide_eq_false_iff_not, Bool.not_eq_true', Bool.not_eq_false', Nat.not_lt, Nat.not_le, beq_iff_eq, bne_iff_ne] at g11_7
            refine TL.not rfl rfl rfl ?_
            refine TL.not rfl rfl rfl ?_
            refine TL.not rfl rfl rfl ?_
            refine TL.not rfl rfl rfl ?_
            refine TL.not rfl rfl rfl ?_
            refine TL.not rfl rfl rfl ?_
            refine TL.not rfl rfl rfl ?_
            refine TL.val rfl rfl rfl (Y.pick_f rfl rfl rfl) ?_
            refine TL.nil ?_
            refine TQ.next ?_
            refine TC.cond_f rfl ?_
            obtain ⟨hB, hmk⟩ := farB_out (x := x) c2 (by omega)
            refine TC.draws 17 [SA.rds 1 (.slice (some ⟨g, off, none⟩) l.length cap) l.length (l.map vI)] (by kernel_rfl) (by kernel_rfl) hld ?_
            refine TA.tk 0 rfl rfl (Y.move rfl rfl) ?_
            refine TA.tp 1 rfl rfl (Y.move rfl rfl) ?_
            refine TA.as (.slice (some ⟨g, off, none⟩) l.length cap) (by rfl) ?_
            refine TA.tp 2 rfl rfl (Y.move rfl rfl) ?_
            refine TA.tp 3 rfl rfl (Y.move rfl rfl) ?_
            refine TA.tp 4 rfl rfl (Y.bin rfl rfl rfl (br_addN (by omega))) ?_
            refine TA.tp 5 rfl rfl (by first | exact Y.indexSlB rfl sl37 rfl rfl (by omega) nqq | exact Y.indexSl rfl sl37 rfl rfl (by omega) nqq) ?_
            refine TA.tp 9 rfl rfl (Y.move rfl rfl) ?_
            refine TA.as (.slice (some ⟨g, off, none⟩) l.length cap) (by rfl) ?_
            refine TA.tp 10 rfl rfl (Y.move rfl rfl) ?_
            refine TA.tp 11 rfl rfl (Y.move rfl rfl) ?_
            refine TA.tp 12 rfl rfl (Y.bin rfl rfl rfl (br_addN (by omega))) ?_
            refine TA.tp 13 rfl rfl (by first | exact Y.indexSlB rfl sl37 rfl rfl (by omega) nqq | exact Y.indexSl rfl sl37 rfl rfl (by omega) nqq) ?_
            refine TA.any (rs := [6, 14]) (by kernel_rfl) (by simp) ?_
            simp only [List.forall_mem_cons, List.not_mem_nil, false_implies, implies_true, and_true]
            refine ⟨?_, ?_⟩
            · skip
              refine TAo.eff rfl rfl rfl rfl (Eff.val (fun _ h => by cases h) (Y.load rfl sc3 rfl (Cel.atS (l := l) hRd inn hx rfl))) ?_
              rintro _ _ ⟨rfl, rfl⟩
              refine ⟨Or.inr hld, ?_⟩
              refine TA.as (vI x) (by rfl) ?_
              refine TA.tp 7 rfl rfl (Y.bin rfl rfl rfl br_shrI) ?_
              refine TA.tp 8 rfl rfl (Y.conv rfl Try.underlying3 Try.underlying5 rfl (byte_v (x / 256))) ?_
              refine TA.one 14 (by kernel_rfl) rfl rfl rfl rfl (Eff.val (fun _ h => by cases h) (Y.load rfl sc3 rfl (Cel.atS (l := l) hRd inn hx rfl))) ?_
              rintro _ _ ⟨rfl, rfl⟩
              refine ⟨Or.inr hld, ?_⟩
              refine TA.as (vI x) (by rfl) ?_
              refine TA.tp 15 rfl rfl (Y.conv rfl Try.underlying3 Try.underlying5 rfl (byte_v x)) ?_
              refine TA.one 16 (by kernel_rfl) rfl rfl rfl rfl (X.lit rfl el52 rfl rfl rfl (by decide) rfl) ?_
              rintro _ _ ⟨g75, rfl, rfl⟩
              refine ⟨(Or.inr hld), ?_⟩
              refine TA.one 17 (by kernel_rfl) rfl rfl rfl rfl (X.appendS rfl el52 rfl pul rfl (by first | exact Src.owns Try.underlying52 inn | exact Src.rds Try.underlying52 inn | exact Src.reads (by assumption) Try.underlying52 inn) (by simp only [maxLen]; omega) (by omega)) ?_
              rintro _ _ ⟨a76, c76, rfl, rfl⟩
              rw [show (farL (l.take (7 * j + k))).map v8 ++ [v8 (byteI (x / 256)), v8 (byteI x)] = (farL (l.take (7 * j + (k + 1)))).map v8 by rw [← Nat.add_assoc, hfs, hB, List.map_append]; rfl, show (farL (l.take (7 * j + k))).length + 2 = (farL (l.take (7 * j + (k + 1)))).length by rw [← Nat.add_assoc, hfs, hB, List.length_append]; rfl]
              refine ⟨(Or.inl (by kernel_rfl)), ?_⟩
              refine TA.tp 18 rfl rfl (Y.assign rfl rfl) ?_
              refine TA.done (by kernel_rfl) ?_
              refine TQ.next ?_
              obtain ⟨pq, hpq, hpw⟩ : ∃ q, 2 ^ (12 - 2 * k) = q ∧ q ≤ 4096 := ⟨_, rfl, Nat.pow_le_pow_right (n := 2) (by decide) (show 12 - 2 * k ≤ 12 by omega)⟩
              refine TC.region ?_
              refine TL.val rfl rfl rfl (Y.move rfl rfl) ?_
              refine TL.val rfl rfl rfl (Y.move rfl rfl) ?_
              refine TL.val rfl rfl rfl (Y.move rfl rfl) ?_
              refine TL.val rfl rfl rfl (Y.bin rfl rfl rfl (br_mulN (m := 2) (by omega))) ?_
              refine TL.val rfl rfl rfl (Y.bin rfl rfl rfl (br_subN (m := 12) (by omega) (by omega))) ?_
              refine TL.val rfl rfl rfl (Y.conv rfl Try.underlying3 Try.underlying106 rfl (cv_N_64n (by omega))) ?_
              refine TL.val rfl rfl rfl (by first | exact Y.bin rfl rfl rfl (br_shlN (m := 1) (n := 12 - 2 * k) (c := pq) hpq (by omega) (by omega)) | exact Y.bin rfl rfl rfl (br_shlN (m := 2) (n := 12 - 2 * k) (c := pq) hpq (by omega) (by omega))) ?_
              refine TL.val rfl rfl rfl (Y.bin rfl rfl rfl (br_addN (by omega))) ?_
              refine TL.as (vN (mkw l j (k + 1))) (by (rw [mkw, hmx, hmk, hpq])) ?_
              refine TL.val rfl rfl rfl (Y.assign rfl rfl) ?_
              refine TL.nil ?_
              refine TQ.block_normal ?_
              refine TQ.next ?_
              refine TC.region ?_
              refine TL.val rfl rfl rfl (Y.bin rfl rfl rfl (br_addN (n := 1) (by omega))) ?_
              refine TL.val rfl rfl rfl (Y.move rfl rfl) ?_
              refine TL.nil ?_
              refine TQ.loopF ((by first | exact (k + 1, a58, c58) | exact (k + 1, a76, c76) | exact (k + 1, ea, ec))) (by show k + 1 ≤ 7; omega) (by show 7 - (k + 1) < 7 - k; omega) (by first | exact ⟨rfl, (by rw [(out_none g9_6).1]; rfl), (by rw [(out_none g9_6).2]; rfl), trivial⟩ | exact ⟨rfl, (by rw [(out_lost hx c2).1]; rfl), (by rw [(out_lost hx c2).2]; rfl), trivial⟩ | exact ⟨rfl, rfl, rfl, trivial⟩) grw ?_ ?_ ?_
              · kernel_rfl
              · rfl
              · simp only [List.cons_append, List.nil_append]
                exact (by first | (rw [(out_none g9_6).2]; exact ett) | (rw [(out_lost hx c2).2]; exact ett) | exact ett)
            · skip
              refine TAo.eff rfl rfl rfl rfl (Eff.val (fun _ h => by cases h) (Y.load rfl sc3 rfl (Cel.atS (l := l) hRd inn hx rfl))) ?_
              rintro _ _ ⟨rfl, rfl⟩
              refine ⟨Or.inr hld, ?_⟩
              refine TA.as (vI x) (by rfl) ?_
              refine TA.tp 15 rfl rfl (Y.conv rfl Try.underlying3 Try.underlying5 rfl (byte_v x)) ?_
              refine TA.one 6 (by kernel_rfl) rfl rfl rfl rfl (Eff.val (fun _ h => by cases h) (Y.load rfl sc3 rfl (Cel.atS (l := l) hRd inn hx rfl))) ?_
              rintro _ _ ⟨rfl, rfl⟩
              refine ⟨Or.inr hld, ?_⟩
              refine TA.as (vI x) (by rfl) ?_
              refine TA.tp 7 rfl rfl (Y.bin rfl rfl rfl br_shrI) ?_
              refine TA.tp 8 rfl rfl (Y.conv rfl Try.underlying3 Try.underlying5 rfl (byte_v (x / 256))) ?_
              refine TA.one 16 (by kernel_rfl) rfl rfl rfl rfl (X.lit rfl el52 rfl rfl rfl (by decide) rfl) ?_
              rintro _ _ ⟨g75, rfl, rfl⟩
              refine ⟨(Or.inr hld), ?_⟩
              refine TA.one 17 (by kernel_rfl) rfl rfl rfl rfl (X.appendS rfl el52 rfl pul rfl (by first | exact Src.owns Try.underlying52 inn | exact Src.rds Try.underlying52 inn | exact Src.reads (by assumption) Try.underlying52 inn) (by simp only [maxLen]; omega) (by omega)) ?_
              rintro _ _ ⟨a76, c76, rfl, rfl⟩
              rw [show (farL (l.take (7 * j + k))).map v8 ++ [v8 (byteI (x / 256)), v8 (byteI x)] = (farL (l.take (7 * j + (k + 1)))).map v8 by rw [← Nat.add_assoc, hfs, hB, List.map_append]; rfl, show (farL (l.take (7 * j + k))).length + 2 = (farL (l.take (7 * j + (k + 1)))).length by rw [← Nat.add_assoc, hfs, hB, List.length_append]; rfl]
              refine ⟨(Or.inl (by kernel_rfl)), ?_⟩
              refine TA.tp 18 rfl rfl (Y.assign rfl rfl) ?_
              refine TA.done (by kernel_rfl) ?_
              refine TQ.next ?_
              obtain ⟨pq, hpq, hpw⟩ : ∃ q, 2 ^ (12 - 2 * k) = q ∧ q ≤ 4096 := ⟨_, rfl, Nat.pow_le_pow_right (n := 2) (by decide) (show 12 - 2 * k ≤ 12 by omega)⟩
              refine TC.region ?_
              refine TL.val rfl rfl rfl (Y.move rfl rfl) ?_
              refine TL.val rfl rfl rfl (Y.move rfl rfl) ?_
              refine TL.val rfl rfl rfl (Y.move rfl rfl) ?_
              refine TL.val rfl rfl rfl (Y.bin rfl rfl rfl (br_mulN (m := 2) (by omega))) ?_
              refine TL.val rfl rfl rfl (Y.bin rfl rfl rfl (br_subN (m := 12) (by omega) (by omega))) ?_
              refine TL.val rfl rfl rfl (Y.conv rfl Try.underlying3 Try.underlying106 rfl (cv_N_64n (by omega))) ?_
              refine TL.val rfl rfl rfl (by first | exact Y.bin rfl rfl rfl (br_shlN (m := 1) (n := 12 - 2 * k) (c := pq) hpq (by omega) (by omega)) | exact Y.bin rfl rfl rfl (br_shlN (m := 2) (n := 12 - 2 * k) (c := pq) hpq (by omega) (by omega))) ?_
              refine TL.val rfl rfl rfl (Y.bin rfl rfl rfl (br_addN (by omega))) ?_
              refine TL.as (vN (mkw l j (k + 1))) (by (rw [mkw, hmx, hmk, hpq])) ?_
              refine TL.val rfl rfl rfl (Y.assign rfl rfl) ?_
              refine TL.nil ?_
              refine TQ.block_normal ?_
              refine TQ.next ?_
              refine TC.region ?_
              refine TL.val rfl rfl rfl (Y.bin rfl rfl rfl (br_addN (n := 1) (by omega))) ?_
              refine TL.val rfl rfl rfl (Y.move rfl rfl) ?_
              refine TL.nil ?_
              refine TQ.loopF ((by first | exact (k + 1, a58, c58) | exact (k + 1, a76, c76) | exact (k + 1, ea, ec))) (by show k + 1 ≤ 7; omega) (by show 7 - (k + 1) < 7 - k; omega) (by first | exact ⟨rfl, (by rw [(out_none g9_6).1]; rfl), (by rw [(out_none g9_6).2]; rfl), trivial⟩ | exact ⟨rfl, (by rw [(out_lost hx c2).1]; rfl), (by rw [(out_lost hx c2).2]; rfl), trivial⟩ | exact ⟨rfl, rfl, rfl, trivial⟩) grw ?_ ?_ ?_
              · kernel_rfl
              · rfl
              · simp only [List.cons_append, List.nil_append]
                exact (by first | (rw [(out_none g9_6).2]; exact ett) | (rw [(out_lost hx c2).2]; exact ett) | exact ett)
    · try simp only [decide_eq_true_eq, decide_eq_false_iff_not, Bool.not_eq_true', Bool.not_eq_false', Bool.and_eq_true, Bool.or_eq_true, Nat.not_lt, Nat.not_le, beq_iff_eq, bne_iff_ne] at c1
      obtain rfl : k = 7 := by omega
      refine TC.exit ?_
      refine TQ.then_exit ?_
      refine TQ.then_exit ?_
      refine TQ.block_exit ?_
      refine TQ.next ?_
      refine TC.region ?_
      refine TL.val rfl rfl rfl (Y.move rfl rfl) ?_
      refine TL.val rfl rfl rfl (Y.move rfl rfl) ?_
      refine TL.eff rfl rfl rfl (X.cl rfl Try.func40 rfl (h := (r1.Two_fn _ (by omega) _))) ?_
      rintro _ _ ⟨g88, rfl, rfl⟩
      refine TL.eff rfl rfl rfl (X.appendS rfl el52 rfl pul rfl (by first | exact Src.owns Try.underlying52 inn | exact Src.rds Try.underlying52 inn | exact Src.reads (by assumption) Try.underlying52 inn) (by simp only [maxLen]; omega) (by omega)) ?_
      rintro _ _ ⟨a89, c89, rfl, rfl⟩
      rw [show (marksN l j).map v8 ++ (r1.be2 (mkw l j 7)).map v8 = (marksN l (j + 1)).map v8 by rw [marksN_s, List.map_append], show (marksN l j).length + 2 = (marksN l (j + 1)).length by rw [marksN_len, marksN_len]; omega]
      refine TL.val rfl rfl rfl (Y.assign rfl rfl) ?_
      refine TL.nil ?_
      refine TQ.block_normal ?_
      refine TQ.next ?_
      refine TC.region ?_
      refine TL.val rfl rfl rfl (Y.move rfl rfl) ?_
      refine TL.val rfl rfl rfl (Y.bin rfl rfl rfl (br_addN (n := 7) (by omega))) ?_
      refine TL.as (vN (7 * (j + 1))) (by rfl) ?_
      refine TL.val rfl rfl rfl (Y.assign rfl rfl) ?_
      refine TL.nil ?_
      refine TQ.loopF ((j + 1, (a89, c89), ea, ec)) (by show j + 1 ≤ rows l.length; omega) (by show rows l.length - (j + 1) < rows l.length - j; omega) ⟨rfl, rfl, rfl, trivial⟩ grw ?_ ?_ ?_
      · kernel_rfl
      · rfl
      · simp only [List.cons_append, List.nil_append]
        exact (by rw [show 7 * (j + 1) = 7 * j + 7 from rfl]; exact ett)
  · try simp only [decide_eq_true_eq, decide_eq_false_iff_not, Bool.not_eq_true', Bool.not_eq_false', Bool.and_eq_true, Bool.or_eq_true, Nat.not_lt, Nat.not_le, beq_iff_eq, bne_iff_ne] at c0
    have hfa := farL_len l
    obtain rfl : j = rows l.length := by omega
    rw [show l.take (7 * rows l.length) = l from List.take_of_length_le (by omega)]
    refine TC.exit ?_
    refine TQ.then_exit ?_
    refine TQ.then_exit ?_
    refine TQ.block_exit ?_
    refine TQ.next ?_
    refine TC.seq ?_
    refine TC.region ?_
    refine TL.val rfl rfl rfl (Y.move rfl rfl) ?_
    refine TL.val rfl rfl rfl (Y.move rfl rfl) ?_
    refine TL.eff rfl rfl rfl (X.appendS rfl el52 rfl pul rfl (by first | exact Src.owns Try.underlying52 inn | exact Src.rds Try.underlying52 inn | exact Src.reads (by assumption) Try.underlying52 inn) (by simp only [maxLen]; omega) (by omega)) ?_
    rintro _ _ ⟨a92, c92, rfl, rfl⟩
    rw [← List.map_append, ← List.length_append, show marksN l (rows l.length) ++ farL l = arrB l from rfl]
    refine TL.val rfl rfl rfl (Y.assign rfl rfl) ?_
    refine TL.nil ?_
    refine TQ.next ?_
    refine TC.ret ?_
    refine TQ.retE (res1 rfl rfl) (⟨a92, c92, rfl, rfl⟩) ?_
    exact ett
end tw
end Go.Proofs.Ythamkpjiecigjaa

/- twcc, read and written: the two packets, written; walked. -/
namespace Go.Proofs.Ythamkpjiecigjaa
set_option linter.unusedVariables false
set_option linter.unusedSimpArgs false
open Go.RowKit
namespace tw
namespace FxTr4
set_option maxRecDepth 100000
theorem el112 : Elt Try.prog 112 52 1 24 (.slice none 0 0) := ⟨Try.underlying112, by kernel_rfl, rfl, by decide, by simp [Value.cells, Value.oneCell']⟩
theorem el52 : Elt Try.prog 52 5 1 1 (.int .u8 0) := ⟨Try.underlying52, by kernel_rfl, rfl, by decide, by simp [Value.cells, Value.oneCell']⟩
theorem fo46_0 : Program.fieldOff Try.prog 46 0 = some 0 := by kernel_rfl
theorem fo46_1 : Program.fieldOff Try.prog 46 1 = some 1 := by kernel_rfl
theorem fo46_11 : Program.fieldOff Try.prog 46 11 = some 11 := by kernel_rfl
theorem fo46_12 : Program.fieldOff Try.prog 46 12 = some 12 := by kernel_rfl
theorem fo46_13 : Program.fieldOff Try.prog 46 13 = some 13 := by kernel_rfl
theorem fo46_14 : Program.fieldOff Try.prog 46 14 = some 14 := by kernel_rfl
theorem fo46_2 : Program.fieldOff Try.prog 46 2 = some 2 := by kernel_rfl
theorem fo46_7 : Program.fieldOff Try.prog 46 7 = some 7 := by kernel_rfl
theorem sc23 : Program.isSc Try.prog 23 = true := by kernel_rfl
theorem sc29 : Program.isSc Try.prog 29 = true := by kernel_rfl
theorem sc3 : Program.isSc Try.prog 3 = true := by kernel_rfl
theorem sc37 : Program.isSc Try.prog 37 = true := by kernel_rfl
theorem sc43 : Program.isSc Try.prog 43 = true := by kernel_rfl
theorem sc5 : Program.isSc Try.prog 5 = true := by kernel_rfl
end FxTr4
open FxTr4
def pad4 (l : List UInt8) : List UInt8 := l ++ List.replicate ((4 - l.length % 4) % 4) 0
theorem pad4_length (l : List UInt8) : (pad4 l).length = l.length + (4 - l.length % 4) % 4 := by simp [pad4]
theorem pad4_mod (l : List UInt8) : (pad4 l).length % 4 = 0 := by rw [pad4_length]; omega
theorem pad4_step (l : List UInt8) (h : l.length % 4 ≠ 0) : pad4 (l ++ [0]) = pad4 l := by
  have e : (4 - l.length % 4) % 4 = (4 - (l ++ [0]).length % 4) % 4 + 1 := by simp; omega
  simp only [pad4, e, List.replicate_succ]
  simp
theorem pad4_done (l : List UInt8) (h : l.length % 4 = 0) : pad4 l = l := by simp [pad4, h]
abbrev nilS : Value := .slice none 0 0
theorem reports_nil (L : List SA) : Fn Try.prog 38 [nilS] L (fun v L' => v = nilS ∧ L' = L) := by
  refine Fn.of (N := 43) Try.func38 rfl rfl ?_
  intro Xh
  refine TC.seq ?_
  refine TC.region ?_
  refine TL.val rfl rfl rfl (Y.assign rfl rfl) ?_
  refine TL.nil ?_
  refine TQ.next ?_
  refine TC.seq ?_
  refine TC.region ?_
  refine TL.val rfl rfl rfl (Y.assign rfl rfl) ?_
  refine TL.nil ?_
  refine TQ.next ?_
  refine TC.seq ?_
  refine TC.seq ?_
  refine TC.region ?_
  refine TL.val rfl rfl rfl (Y.move rfl rfl) ?_
  refine TL.val rfl rfl rfl (Y.len rfl Try.underlying43 rfl) ?_
  refine TL.val rfl rfl rfl (Y.move rfl rfl) ?_
  refine TL.nil ?_
  refine TQ.next ?_
  refine TC.block ?_
  refine TC.loopF (ι := Unit) [] (fun _ => True) (fun _ => [(8, some (vN 0)), (3, some nilS)]) (fun _ => []) (fun _ => 0) (()) (trivial) ⟨rfl, rfl, trivial⟩ Pulls.nil ?_
  rintro ⟨⟩ - F' L' rfl hL'
  simp only [List.cons_append, List.nil_append] at hL'
  subst hL'
  refine TC.seq ?_
  refine TC.region ?_
  refine TL.val rfl rfl rfl (Y.bin rfl rfl rfl (br_ltN)) ?_
  refine TL.is false isf ?_
  refine TL.nil ?_
  refine TQ.next ?_
  refine TC.seq ?_
  refine TC.cond_f rfl ?_
  refine TC.exit ?_
  refine TQ.then_exit ?_
  refine TQ.then_exit ?_
  refine TQ.block_exit ?_
  refine TQ.next ?_
  refine TC.seq ?_
  refine TC.region ?_
  refine TL.val rfl rfl rfl (Y.move rfl rfl) ?_
  refine TL.val rfl rfl rfl (Y.assign rfl rfl) ?_
  refine TL.nil ?_
  refine TQ.next ?_
  refine TC.ret ?_
  refine TQ.retE (res1 rfl rfl) (⟨rfl, rfl⟩) ?_
  exact ett
def e2 : List UInt8 := [128, 201, 0, 1, 0, 0, 0, 0]
def body6 (s m : UInt32) (b : UInt16) (r : UInt32) (c : UInt8) (l : List Int) : List UInt8 :=
  r1.be4 s ++ (r1.be4 m ++ (r1.be2 b.toNat ++ (r1.be2 l.length ++ (r1.be4 (shl32 r 8 ||| c.toUInt32) ++ arrB l))))
def e6 (s m : UInt32) (b : UInt16) (r : UInt32) (c : UInt8) (l : List Int) : List UInt8 :=
  [143, 205] ++ (r1.be2 ((pad4 (body6 s m b r c l)).length / 4) ++ pad4 (body6 s m b r c l))
theorem arrB_len (l : List Int) : (arrB l).length ≤ 4 * l.length + 2 := by
  unfold arrB rows
  rw [List.length_append, marksN_len]
  have := farL_len l
  omega
theorem body6_len (s m : UInt32) (b : UInt16) (r : UInt32) (c : UInt8) (l : List Int) : (body6 s m b r c l).length = 16 + (arrB l).length := by
  unfold body6
  simp only [List.length_append, r1.be4_len, r1.be2_len]
  omega
set_option maxHeartbeats 1000000 in
theorem build2_fn (L : List SA) :
    Fn Try.prog 28 [.agg (PK 2 0 0 0 0 0 nilS)] L
      (fun v L' => ∃ a' c', v = .slice a' e2.length c' ∧ L' = SA.owns 5 1 (.slice a' e2.length c') e2.length (e2.map v8) :: L) := by
  refine Fn.of (N := 194) Try.func28 rfl rfl ?_
  intro Xh
  refine TC.seq ?_
  refine TC.region ?_
  refine TL.eff rfl rfl rfl (X.box (cs := PK 2 0 0 0 0 0 nilS) rfl rfl rfl) ?_
  rintro _ _ ⟨b1, rfl, rfl⟩
  refine TL.val rfl rfl rfl (Y.assign rfl rfl) ?_
  refine TL.nil ?_
  refine TQ.next ?_
  refine TC.seq ?_
  refine TC.region ?_
  refine TL.val rfl rfl rfl (Y.assign rfl rfl) ?_
  refine TL.nil ?_
  refine TQ.next ?_
  refine TC.seq ?_
  refine TC.region ?_
  refine TL.val rfl rfl rfl (Y.assign rfl rfl) ?_
  refine TL.val rfl rfl rfl (Y.assign rfl rfl) ?_
  refine TL.nil ?_
  refine TQ.next ?_
  refine TC.seq ?_
  refine TC.seq ?_
  refine TC.region ?_
  refine TL.val rfl rfl rfl (by first | exact Y.fieldAddrJ rfl fo46_0 rfl nqq | exact Y.fieldAddr rfl fo46_0 rfl nqq) ?_
  refine TL.val rfl rfl rfl (Y.load rfl sc3 rfl celN) ?_
  refine TL.as (vN 2) (by rfl) ?_
  refine TL.nil ?_
  refine TQ.next ?_
  refine TC.block ?_
  refine TC.seq ?_
  refine TC.region ?_
  refine TL.val rfl rfl rfl (Y.bin rfl rfl rfl (br_eqN (n := 1))) ?_
  refine TL.is false isf ?_
  refine TL.val rfl rfl rfl (Y.assign rfl rfl) ?_
  refine TL.nil ?_
  refine TQ.next ?_
  refine TC.cond_f rfl ?_
  refine TC.seq ?_
  refine TC.region ?_
  refine TL.val rfl rfl rfl (Y.bin rfl rfl rfl (br_eqN (n := 2))) ?_
  refine TL.is true isf ?_
  refine TL.val rfl rfl rfl (Y.assign rfl rfl) ?_
  refine TL.nil ?_
  refine TQ.next ?_
  refine TC.cond_t rfl ?_
  refine TC.seq ?_
  refine TC.region ?_
  refine TL.val rfl rfl rfl (by first | exact Y.fieldAddrJ rfl fo46_7 rfl nqq | exact Y.fieldAddr rfl fo46_7 rfl nqq) ?_
  refine TL.val rfl rfl rfl (Y.load rfl sc43 rfl celD) ?_
  refine TL.as (nilS) (by rfl) ?_
  refine TL.val rfl rfl rfl (Y.len rfl Try.underlying43 rfl) ?_
  refine TL.val rfl rfl rfl (Y.assign rfl rfl) ?_
  refine TL.val rfl rfl rfl (Y.assign rfl rfl) ?_
  refine TL.nil ?_
  refine TQ.next ?_
  refine TC.draws 9 [SA.blk b1 (PK 2 0 0 0 0 0 nilS) 46] (by kernel_rfl) (by kernel_rfl) hld ?_
  refine TA.tk 0 rfl rfl (by first | exact Y.fieldAddrJ rfl fo46_1 rfl nqq | exact Y.fieldAddr rfl fo46_1 rfl nqq) ?_
  refine TA.tk 1 rfl rfl (Y.load rfl sc23 rfl cel32) ?_
  refine TA.as (v32 0) (by rfl) ?_
  refine TA.tk 3 rfl rfl (by first | exact Y.fieldAddrJ rfl fo46_7 rfl nqq | exact Y.fieldAddr rfl fo46_7 rfl nqq) ?_
  refine TA.tk 4 rfl rfl (Y.load rfl sc43 rfl celD) ?_
  refine TA.as (nilS) (by rfl) ?_
  refine TA.one 2 (by kernel_rfl) rfl rfl rfl rfl (X.cl rfl Try.func37 rfl (h := (tw.four_fn _ _))) ?_
  rintro _ _ ⟨g80, rfl, rfl⟩
  refine ⟨(Or.inr hld), ?_⟩
  refine TA.one 5 (by kernel_rfl) rfl rfl rfl rfl (X.cl rfl Try.func38 rfl (h := (reports_nil _))) ?_
  rintro _ _ ⟨rfl, rfl⟩
  refine ⟨(Or.inr hld), ?_⟩
  refine TA.one 6 (by kernel_rfl) rfl rfl rfl rfl (X.lit rfl el112 rfl rfl rfl (by decide) rfl) ?_
  rintro _ _ ⟨g84, rfl, rfl⟩
  refine ⟨(Or.inr hld), ?_⟩
  refine TA.to (Ent.nilOwn 5 1) ?_
  refine TA.to Ent.bsNil ?_
  refine TA.to (Ent.bsPull (a := none) (cap := 0) pul pul (l := []) rfl rfl) ?_
  refine TA.to (Ent.bsPull (a := some ⟨g80, 0, none⟩) pul pul (l := r1.be4 0) rfl rfl) ?_
  refine TA.to (Ent.mkJoin pul pul rfl rfl) ?_
  refine TA.one 7 (by kernel_rfl) rfl rfl rfl rfl (X.cl rfl Try.func36 rfl (h := (r1.Join_fn _ _ [⟨some ⟨g80, 0, none⟩, 4, r1.be4 0⟩, ⟨none, 0, []⟩] (by simp [r1.flat, r1.be4]) _))) ?_
  rintro _ _ ⟨a85, c85, rfl, rfl⟩
  rw [show r1.flat [⟨some ⟨g80, 0, none⟩, 4, r1.be4 0⟩, ⟨none, 0, []⟩] = [0, 0, 0, 0] by rfl]
  refine ⟨(Or.inr hld), ?_⟩
  refine TA.tk 8 rfl rfl (Y.assign rfl rfl) ?_
  refine TA.done (by kernel_rfl) ?_
  refine TQ.block_normal ?_
  refine TQ.next ?_
  refine TC.seq ?_
  refine TC.block ?_
  refine TC.loopF (ι := Unit) [] (fun _ => True) (fun _ => [(3, some (.slice a85 4 c85))]) (fun _ => []) (fun _ => 0) (()) (trivial) ⟨rfl, trivial⟩ Pulls.nil ?_
  rintro ⟨⟩ - F' L' rfl hL'
  simp only [List.cons_append, List.nil_append] at hL'
  subst hL'
  refine TC.seq ?_
  refine TC.seq ?_
  refine TC.region ?_
  refine TL.val rfl rfl rfl (Y.move rfl rfl) ?_
  refine TL.val rfl rfl rfl (Y.len rfl Try.underlying52 rfl) ?_
  refine TL.val rfl rfl rfl (Y.bin rfl rfl rfl (br_remN (n := 4) (by omega))) ?_
  refine TL.val rfl rfl rfl (Y.bin rfl rfl rfl (br_neN (n := 0))) ?_
  refine TL.is false isf ?_
  refine TL.nil ?_
  refine TQ.next ?_
  refine TC.cond_f rfl ?_
  refine TC.exit ?_
  refine TQ.then_exit ?_
  refine TQ.then_exit ?_
  refine TQ.block_exit ?_
  refine TQ.next ?_
  refine TC.seq ?_
  refine TC.region ?_
  refine TL.val rfl rfl rfl (Y.move rfl rfl) ?_
  refine TL.val rfl rfl rfl (Y.bin rfl rfl rfl (br_addN (m := 128) (by omega))) ?_
  refine TL.val rfl rfl rfl (Y.conv rfl Try.underlying3 Try.underlying5 rfl (cv_N_8)) ?_
  refine TL.as (v8 128) (by rfl) ?_
  refine TL.val rfl rfl rfl (Y.move rfl rfl) ?_
  refine TL.val rfl rfl rfl (Y.conv rfl Try.underlying3 Try.underlying5 rfl (cv_N_8)) ?_
  refine TL.as (v8 201) (by rfl) ?_
  refine TL.eff rfl rfl rfl (X.lit rfl el52 rfl rfl rfl (by decide) rfl) ?_
  rintro _ _ ⟨g186, rfl, rfl⟩
  refine TL.val rfl rfl rfl (Y.move rfl rfl) ?_
  refine TL.val rfl rfl rfl (Y.len rfl Try.underlying52 rfl) ?_
  refine TL.val rfl rfl rfl (Y.bin rfl rfl rfl (br_quoN (n := 4) (by omega) (by omega))) ?_
  refine TL.as (vN 1) (by rfl) ?_
  refine TL.eff rfl rfl rfl (X.cl rfl Try.func40 rfl (h := (r1.Two_fn _ (by omega) _))) ?_
  rintro _ _ ⟨g190, rfl, rfl⟩
  refine TL.val rfl rfl rfl (Y.move rfl rfl) ?_
  refine TL.eff rfl rfl rfl (X.lit rfl el112 rfl rfl rfl (by decide) rfl) ?_
  rintro _ _ ⟨g192, rfl, rfl⟩
  refine TL.to Ent.bsNil ?_
  refine TL.to (Ent.bsPull (a := a85) (cap := c85) pul pul (l := [0, 0, 0, 0]) rfl rfl) ?_
  refine TL.to (Ent.bsPull (a := some ⟨g190, 0, none⟩) pul pul (l := r1.be2 1) rfl rfl) ?_
  refine TL.to (Ent.bsPull (a := some ⟨g186, 0, none⟩) pul pul (l := [128, 201]) rfl rfl) ?_
  refine TL.to (Ent.mkJoin pul pul rfl rfl) ?_
  refine TL.eff rfl rfl rfl (X.cl rfl Try.func36 rfl (h := (r1.Join_fn _ _ [⟨some ⟨g186, 0, none⟩, 2, [128, 201]⟩, ⟨some ⟨g190, 0, none⟩, 2, r1.be2 1⟩, ⟨a85, c85, [0, 0, 0, 0]⟩] (by simp [r1.flat, r1.be2]) _))) ?_
  rintro _ _ ⟨a193, c193, rfl, rfl⟩
  rw [show r1.flat [⟨some ⟨g186, 0, none⟩, 2, [128, 201]⟩, ⟨some ⟨g190, 0, none⟩, 2, r1.be2 1⟩, ⟨a85, c85, [0, 0, 0, 0]⟩] = e2 by rfl]
  refine TL.val rfl rfl rfl (Y.assign rfl rfl) ?_
  refine TL.nil ?_
  refine TQ.next ?_
  refine TC.ret ?_
  refine TQ.retE (res1 rfl rfl) (⟨_, _, rfl, rfl⟩) ?_
  exact ett
set_option maxHeartbeats 2000000 in
theorem build6_fn (s m : UInt32) (b : UInt16) (r : UInt32) (c : UInt8) (a : Option Addr) (cap : Nat) (l : List Int) (h2 : l.length ≤ 255) (hf : Fit l) (L : List SA) :
    Fn Try.prog 28 [.agg (PK 6 s m b r c (.slice a l.length cap))] (SA.rds 1 (.slice a l.length cap) l.length (l.map vI) :: L)
      (fun v L' => ∃ a' c', v = .slice a' (e6 s m b r c l).length c' ∧ L' = SA.owns 5 1 (.slice a' (e6 s m b r c l).length c') (e6 s m b r c l).length ((e6 s m b r c l).map v8) :: SA.rds 1 (.slice a l.length cap) l.length (l.map vI) :: L) := by
  have hbt := b.toNat_lt
  have hal := arrB_len l
  have hb6 := body6_len s m b r c l
  refine Fn.of (N := 194) Try.func28 rfl rfl ?_
  intro Xh
  refine TC.seq ?_
  refine TC.region ?_
  refine TL.eff rfl rfl rfl (X.box (cs := PK 6 s m b r c (.slice a l.length cap)) rfl rfl rfl) ?_
  rintro _ _ ⟨b1, rfl, rfl⟩
  refine TL.val rfl rfl rfl (Y.assign rfl rfl) ?_
  refine TL.nil ?_
  refine TQ.next ?_
  refine TC.seq ?_
  refine TC.region ?_
  refine TL.val rfl rfl rfl (Y.assign rfl rfl) ?_
  refine TL.nil ?_
  refine TQ.next ?_
  refine TC.seq ?_
  refine TC.region ?_
  refine TL.val rfl rfl rfl (Y.assign rfl rfl) ?_
  refine TL.val rfl rfl rfl (Y.assign rfl rfl) ?_
  refine TL.nil ?_
  refine TQ.next ?_
  refine TC.seq ?_
  refine TC.seq ?_
  refine TC.region ?_
  refine TL.val rfl rfl rfl (by first | exact Y.fieldAddrJ rfl fo46_0 rfl nqq | exact Y.fieldAddr rfl fo46_0 rfl nqq) ?_
  refine TL.val rfl rfl rfl (Y.load rfl sc3 rfl celN) ?_
  refine TL.as (vN 6) (by rfl) ?_
  refine TL.nil ?_
  refine TQ.next ?_
  refine TC.block ?_
  refine TC.seq ?_
  refine TC.region ?_
  refine TL.val rfl rfl rfl (Y.bin rfl rfl rfl (br_eqN (n := 1))) ?_
  refine TL.is false isf ?_
  refine TL.val rfl rfl rfl (Y.assign rfl rfl) ?_
  refine TL.nil ?_
  refine TQ.next ?_
  refine TC.cond_f rfl ?_
  refine TC.seq ?_
  refine TC.region ?_
  refine TL.val rfl rfl rfl (Y.bin rfl rfl rfl (br_eqN (n := 2))) ?_
  refine TL.is false isf ?_
  refine TL.val rfl rfl rfl (Y.assign rfl rfl) ?_
  refine TL.nil ?_
  refine TQ.next ?_
  refine TC.cond_f rfl ?_
  refine TC.seq ?_
  refine TC.region ?_
  refine TL.val rfl rfl rfl (Y.bin rfl rfl rfl (br_eqN (n := 3))) ?_
  refine TL.is false isf ?_
  refine TL.val rfl rfl rfl (Y.assign rfl rfl) ?_
  refine TL.nil ?_
  refine TQ.next ?_
  refine TC.cond_f rfl ?_
  refine TC.seq ?_
  refine TC.region ?_
  refine TL.val rfl rfl rfl (Y.bin rfl rfl rfl (br_eqN (n := 4))) ?_
  refine TL.is false isf ?_
  refine TL.val rfl rfl rfl (Y.assign rfl rfl) ?_
  refine TL.nil ?_
  refine TQ.next ?_
  refine TC.cond_f rfl ?_
  refine TC.seq ?_
  refine TC.region ?_
  refine TL.val rfl rfl rfl (Y.bin rfl rfl rfl (br_eqN (n := 5))) ?_
  refine TL.is false isf ?_
  refine TL.val rfl rfl rfl (Y.assign rfl rfl) ?_
  refine TL.nil ?_
  refine TQ.next ?_
  refine TC.cond_f rfl ?_
  refine TC.seq ?_
  refine TC.region ?_
  refine TL.val rfl rfl rfl (Y.bin rfl rfl rfl (br_eqN (n := 6))) ?_
  refine TL.is true isf ?_
  refine TL.val rfl rfl rfl (Y.assign rfl rfl) ?_
  refine TL.nil ?_
  refine TQ.next ?_
  refine TC.cond_t rfl ?_
  refine TC.seq ?_
  refine TC.region ?_
  refine TL.val rfl rfl rfl (Y.assign rfl rfl) ?_
  refine TL.val rfl rfl rfl (Y.assign rfl rfl) ?_
  refine TL.nil ?_
  refine TQ.next ?_
  refine TC.draws 28 [SA.blk b1 (PK 6 s m b r c (.slice a l.length cap)) 46] (by kernel_rfl) (by kernel_rfl) hld ?_
  refine TA.tk 0 rfl rfl (by first | exact Y.fieldAddrJ rfl fo46_1 rfl nqq | exact Y.fieldAddr rfl fo46_1 rfl nqq) ?_
  refine TA.tk 1 rfl rfl (Y.load rfl sc23 rfl cel32) ?_
  refine TA.as (v32 s) (by rfl) ?_
  refine TA.tk 3 rfl rfl (by first | exact Y.fieldAddrJ rfl fo46_2 rfl nqq | exact Y.fieldAddr rfl fo46_2 rfl nqq) ?_
  refine TA.tk 4 rfl rfl (Y.load rfl sc23 rfl cel32) ?_
  refine TA.as (v32 m) (by rfl) ?_
  refine TA.tk 6 rfl rfl (by first | exact Y.fieldAddrJ rfl fo46_11 rfl nqq | exact Y.fieldAddr rfl fo46_11 rfl nqq) ?_
  refine TA.tk 7 rfl rfl (Y.load rfl sc29 rfl cel16) ?_
  refine TA.as (v16 b) (by rfl) ?_
  refine TA.tk 8 rfl rfl (Y.conv rfl Try.underlying29 Try.underlying3 rfl (cv_16_N)) ?_
  refine TA.as (vN b.toNat) (by rfl) ?_
  refine TA.tk 10 rfl rfl (by first | exact Y.fieldAddrJ rfl fo46_14 rfl nqq | exact Y.fieldAddr rfl fo46_14 rfl nqq) ?_
  refine TA.tk 11 rfl rfl (Y.load rfl sc37 rfl celD) ?_
  refine TA.as (.slice a l.length cap) (by rfl) ?_
  refine TA.tk 12 rfl rfl (Y.len rfl Try.underlying37 rfl) ?_
  refine TA.tk 14 rfl rfl (by first | exact Y.fieldAddrJ rfl fo46_12 rfl nqq | exact Y.fieldAddr rfl fo46_12 rfl nqq) ?_
  refine TA.tk 15 rfl rfl (Y.load rfl sc23 rfl cel32) ?_
  refine TA.as (v32 r) (by rfl) ?_
  refine TA.tk 16 rfl rfl (Y.bin rfl rfl rfl (br_shl32 (n := 8))) ?_
  refine TA.tk 17 rfl rfl (by first | exact Y.fieldAddrJ rfl fo46_13 rfl nqq | exact Y.fieldAddr rfl fo46_13 rfl nqq) ?_
  refine TA.tk 18 rfl rfl (Y.load rfl sc5 rfl cel8) ?_
  refine TA.as (v8 c) (by rfl) ?_
  refine TA.tk 19 rfl rfl (Y.conv rfl Try.underlying5 Try.underlying23 rfl (cv_8_32)) ?_
  refine TA.tk 20 rfl rfl (Y.bin rfl rfl rfl (br_or32)) ?_
  refine TA.as (v32 (shl32 r 8 ||| c.toUInt32)) (by rfl) ?_
  refine TA.tk 22 rfl rfl (by first | exact Y.fieldAddrJ rfl fo46_14 rfl nqq | exact Y.fieldAddr rfl fo46_14 rfl nqq) ?_
  refine TA.tk 23 rfl rfl (Y.load rfl sc37 rfl celD) ?_
  refine TA.as (.slice a l.length cap) (by rfl) ?_
  refine TA.one 2 (by kernel_rfl) rfl rfl rfl rfl (X.cl rfl Try.func37 rfl (h := (tw.four_fn _ _))) ?_
  rintro _ _ ⟨g139, rfl, rfl⟩
  refine ⟨(Or.inr hld), ?_⟩
  refine TA.one 5 (by kernel_rfl) rfl rfl rfl rfl (X.cl rfl Try.func37 rfl (h := (tw.four_fn _ _))) ?_
  rintro _ _ ⟨g142, rfl, rfl⟩
  refine ⟨(Or.inr hld), ?_⟩
  refine TA.one 9 (by kernel_rfl) rfl rfl rfl rfl (X.cl rfl Try.func40 rfl (h := (r1.Two_fn _ (by omega) _))) ?_
  rintro _ _ ⟨g146, rfl, rfl⟩
  refine ⟨(Or.inr hld), ?_⟩
  refine TA.one 13 (by kernel_rfl) rfl rfl rfl rfl (X.cl rfl Try.func40 rfl (h := (r1.Two_fn _ (by omega) _))) ?_
  rintro _ _ ⟨g150, rfl, rfl⟩
  refine ⟨(Or.inr hld), ?_⟩
  refine TA.one 21 (by kernel_rfl) rfl rfl rfl rfl (X.cl rfl Try.func37 rfl (h := (tw.four_fn _ _))) ?_
  rintro _ _ ⟨g158, rfl, rfl⟩
  refine ⟨(Or.inr hld), ?_⟩
  refine TA.one 24 (by kernel_rfl) rfl rfl rfl rfl (X.cl rfl Try.func41 rfl (h := (arrivals_fn a cap l h2 hf _))) ?_
  rintro _ _ ⟨a161, c161, rfl, rfl⟩
  refine ⟨(Or.inr hld), ?_⟩
  refine TA.one 25 (by kernel_rfl) rfl rfl rfl rfl (X.lit rfl el112 rfl rfl rfl (by decide) rfl) ?_
  rintro _ _ ⟨g162, rfl, rfl⟩
  refine ⟨(Or.inr hld), ?_⟩
  refine TA.to Ent.bsNil ?_
  refine TA.to (Ent.bsPull (a := a161) (cap := c161) pul pul (l := arrB l) rfl rfl) ?_
  refine TA.to (Ent.bsPull (a := some ⟨g158, 0, none⟩) pul pul (l := r1.be4 (shl32 r 8 ||| c.toUInt32)) rfl rfl) ?_
  refine TA.to (Ent.bsPull (a := some ⟨g150, 0, none⟩) pul pul (l := r1.be2 l.length) rfl rfl) ?_
  refine TA.to (Ent.bsPull (a := some ⟨g146, 0, none⟩) pul pul (l := r1.be2 b.toNat) rfl rfl) ?_
  refine TA.to (Ent.bsPull (a := some ⟨g142, 0, none⟩) pul pul (l := r1.be4 m) rfl rfl) ?_
  refine TA.to (Ent.bsPull (a := some ⟨g139, 0, none⟩) pul pul (l := r1.be4 s) rfl rfl) ?_
  refine TA.to (Ent.mkJoin pul pul rfl rfl) ?_
  have hfl : r1.flat [⟨some ⟨g139, 0, none⟩, 4, r1.be4 s⟩, ⟨some ⟨g142, 0, none⟩, 4, r1.be4 m⟩, ⟨some ⟨g146, 0, none⟩, 2, r1.be2 b.toNat⟩, ⟨some ⟨g150, 0, none⟩, 2, r1.be2 l.length⟩, ⟨some ⟨g158, 0, none⟩, 4, r1.be4 (shl32 r 8 ||| c.toUInt32)⟩, ⟨a161, c161, arrB l⟩] = body6 s m b r c l := by
    simp [r1.flat, body6]
  refine TA.one 26 (by kernel_rfl) rfl rfl rfl rfl (X.cl rfl Try.func36 rfl (h := (r1.Join_fn _ _ [⟨some ⟨g139, 0, none⟩, 4, r1.be4 s⟩, ⟨some ⟨g142, 0, none⟩, 4, r1.be4 m⟩, ⟨some ⟨g146, 0, none⟩, 2, r1.be2 b.toNat⟩, ⟨some ⟨g150, 0, none⟩, 2, r1.be2 l.length⟩, ⟨some ⟨g158, 0, none⟩, 4, r1.be4 (shl32 r 8 ||| c.toUInt32)⟩, ⟨a161, c161, arrB l⟩] (by rw [hfl]; omega) _))) ?_
  rintro _ _ ⟨a163, c163, rfl, rfl⟩
  rw [hfl]
  refine ⟨(Or.inr hld), ?_⟩
  refine TA.tk 27 rfl rfl (Y.assign rfl rfl) ?_
  refine TA.done (by kernel_rfl) ?_
  refine TQ.block_normal ?_
  refine TQ.next ?_
  refine TC.seq ?_
  refine TC.block ?_
  have hpl0 := pad4_length (body6 s m b r c l)
  refine TC.loopF (ι := List UInt8 × Option Addr × Nat) [] (fun i => pad4 i.1 = pad4 (body6 s m b r c l)) (fun i => [(3, some (.slice i.2.1 i.1.length i.2.2))]) (fun i => [SA.owns 5 1 (.slice i.2.1 i.1.length i.2.2) i.1.length (i.1.map v8)]) (fun i => (pad4 (body6 s m b r c l)).length - i.1.length) ((body6 s m b r c l, a163, c163)) (rfl) ⟨rfl, trivial⟩ (Pulls.cons pul Pulls.nil) ?_
  rintro ⟨q, qa, qc⟩ hq F' L' rfl hL'
  simp only [List.cons_append, List.nil_append] at hL'
  subst hL'
  simp only at hq ⊢
  have hpl := pad4_length q
  rw [hq] at hpl
  refine TC.seq ?_
  refine TC.seq ?_
  refine TC.region ?_
  refine TL.val rfl rfl rfl (Y.move rfl rfl) ?_
  refine TL.val rfl rfl rfl (Y.len rfl Try.underlying52 rfl) ?_
  refine TL.val rfl rfl rfl (Y.bin rfl rfl rfl (br_remN (n := 4) (by omega))) ?_
  refine TL.val rfl rfl rfl (Y.bin rfl rfl rfl (br_neN (n := 0))) ?_
  refine TL.nil ?_
  refine TQ.next ?_
  refine TC.cond rfl (fun c6 => ?_) (fun c6 => ?_)
  · try simp only [decide_eq_true_eq, decide_eq_false_iff_not, Bool.not_eq_true', Bool.not_eq_false', Bool.and_eq_true, Bool.or_eq_true, Nat.not_lt, Nat.not_le, beq_iff_eq, bne_iff_ne] at c6
    refine TC.skip ?_
    refine TQ.next ?_
    refine TC.block ?_
    refine TC.region ?_
    refine TL.val rfl rfl rfl (Y.move rfl rfl) ?_
    refine TL.eff rfl rfl rfl (X.lit rfl el52 rfl rfl rfl (by decide) rfl) ?_
    rintro _ _ ⟨g179, rfl, rfl⟩
    refine TL.eff rfl rfl rfl (X.appendS rfl el52 rfl pul rfl (by first | exact Src.owns Try.underlying52 inn | exact Src.rds Try.underlying52 inn | exact Src.reads (by assumption) Try.underlying52 inn) (by simp only [maxLen]; omega) (by omega)) ?_
    rintro _ _ ⟨a180, c180, rfl, rfl⟩
    rw [show q.map v8 ++ [.int .u8 0] = (q ++ [(0 : UInt8)]).map v8 by simp, show q.length + 1 = (q ++ [(0 : UInt8)]).length by simp]
    refine TL.val rfl rfl rfl (Y.assign rfl rfl) ?_
    refine TL.nil ?_
    refine TQ.block_normal ?_
    refine TQ.loopF ((q ++ [0], a180, c180)) ((pad4_step q c6).trans hq) (by simp only [List.length_append, List.length_cons, List.length_nil]; omega) ⟨rfl, trivial⟩ grw ?_ ?_ ?_
    · kernel_rfl
    · rfl
    · simp only [List.cons_append, List.nil_append]
      exact ett
  · try simp only [decide_eq_true_eq, decide_eq_false_iff_not, Bool.not_eq_true', Bool.not_eq_false', Bool.and_eq_true, Bool.or_eq_true, Nat.not_lt, Nat.not_le, beq_iff_eq, bne_iff_ne] at c6
    refine TC.exit ?_
    refine TQ.then_exit ?_
    refine TQ.then_exit ?_
    refine TQ.block_exit ?_
    refine TQ.next ?_
    refine TC.seq ?_
    obtain rfl : q = pad4 (body6 s m b r c l) := by rw [← hq, pad4_done q (by omega)]
    have h4 : (pad4 (body6 s m b r c l)).length / 4 < 4294967296 := by omega
    refine TC.region ?_
    refine TL.val rfl rfl rfl (Y.move rfl rfl) ?_
    refine TL.val rfl rfl rfl (Y.bin rfl rfl rfl (br_addN (m := 128) (n := 15) (by decide))) ?_
    refine TL.val rfl rfl rfl (Y.conv rfl Try.underlying3 Try.underlying5 rfl (cv_N_8)) ?_
    refine TL.as (v8 143) (by rfl) ?_
    refine TL.val rfl rfl rfl (Y.move rfl rfl) ?_
    refine TL.val rfl rfl rfl (Y.conv rfl Try.underlying3 Try.underlying5 rfl (cv_N_8)) ?_
    refine TL.as (v8 205) (by rfl) ?_
    refine TL.eff rfl rfl rfl (X.lit rfl el52 rfl rfl rfl (by decide) rfl) ?_
    rintro _ _ ⟨g186, rfl, rfl⟩
    refine TL.val rfl rfl rfl (Y.move rfl rfl) ?_
    refine TL.val rfl rfl rfl (Y.len rfl Try.underlying52 rfl) ?_
    refine TL.val rfl rfl rfl (Y.bin rfl rfl rfl (br_quoN (n := 4) (by omega) (by omega))) ?_
    refine TL.as (vN ((pad4 (body6 s m b r c l)).length / 4)) (by rfl) ?_
    refine TL.eff rfl rfl rfl (X.cl rfl Try.func40 rfl (h := (r1.Two_fn _ (by omega) _))) ?_
    rintro _ _ ⟨g190, rfl, rfl⟩
    refine TL.val rfl rfl rfl (Y.move rfl rfl) ?_
    refine TL.eff rfl rfl rfl (X.lit rfl el112 rfl rfl rfl (by decide) rfl) ?_
    rintro _ _ ⟨g192, rfl, rfl⟩
    refine TL.to Ent.bsNil ?_
    refine TL.to (Ent.bsPull (a := qa) (cap := qc) pul pul (l := pad4 (body6 s m b r c l)) rfl rfl) ?_
    refine TL.to (Ent.bsPull (a := some ⟨g190, 0, none⟩) pul pul (l := r1.be2 ((pad4 (body6 s m b r c l)).length / 4)) rfl rfl) ?_
    refine TL.to (Ent.bsPull (a := some ⟨g186, 0, none⟩) pul pul (l := [143, 205]) rfl rfl) ?_
    refine TL.to (Ent.mkJoin pul pul rfl rfl) ?_
    have hfe : r1.flat [⟨some ⟨g186, 0, none⟩, 2, [143, 205]⟩, ⟨some ⟨g190, 0, none⟩, 2, r1.be2 ((pad4 (body6 s m b r c l)).length / 4)⟩, ⟨qa, qc, pad4 (body6 s m b r c l)⟩] = e6 s m b r c l := by
      simp [r1.flat, e6]
    have hle : (e6 s m b r c l).length = 4 + (pad4 (body6 s m b r c l)).length := by unfold e6; simp only [List.length_append, r1.be2_len, List.length_cons, List.length_nil]; omega
    refine TL.eff rfl rfl rfl (X.cl rfl Try.func36 rfl (h := (r1.Join_fn _ _ [⟨some ⟨g186, 0, none⟩, 2, [143, 205]⟩, ⟨some ⟨g190, 0, none⟩, 2, r1.be2 ((pad4 (body6 s m b r c l)).length / 4)⟩, ⟨qa, qc, pad4 (body6 s m b r c l)⟩] (by rw [hfe, hle]; omega) _))) ?_
    rintro _ _ ⟨a193, c193, rfl, rfl⟩
    rw [hfe]
    refine TL.val rfl rfl rfl (Y.assign rfl rfl) ?_
    refine TL.nil ?_
    refine TQ.next ?_
    refine TC.ret ?_
    refine TQ.retE (res1 rfl rfl) (⟨_, _, rfl, rfl⟩) ?_
    exact ett
end tw
end Go.Proofs.Ythamkpjiecigjaa

/- twcc, read and written: the document's Build of the two packets; walked. -/
namespace Go.Proofs.Ythamkpjiecigjaa
set_option linter.unusedVariables false
set_option linter.unusedSimpArgs false
open Go.RowKit
namespace tw
namespace FxTr5
set_option maxRecDepth 100000
theorem ag46 : Program.aggN Try.prog 46 = some 16 := by kernel_rfl
theorem el52 : Elt Try.prog 52 5 1 1 (.int .u8 0) := ⟨Try.underlying52, by kernel_rfl, rfl, by decide, by simp [Value.cells, Value.oneCell']⟩
theorem fo46_0 : Program.fieldOff Try.prog 46 0 = some 0 := by kernel_rfl
theorem sc3 : Program.isSc Try.prog 3 = true := by kernel_rfl
end FxTr5
open FxTr5
structure P6 where
  s : UInt32
  m : UInt32
  b : UInt16
  r : UInt32
  c : UInt8
  l : List Int
structure P6.ok (p : P6) : Prop where
  hr : p.r.toNat < 16777216
  h1 : 1 ≤ p.l.length
  h2 : p.l.length ≤ 128
  hf : Fit p.l
structure PP where
  k : Nat
  s : UInt32
  m : UInt32
  b : UInt16
  r : UInt32
  c : UInt8
  v : Value
abbrev PP.A (x : PP) : Array Value := PK x.k x.s x.m x.b x.r x.c x.v
/-- the two packets: an empty report of a receiver's, and the feedback -/
def sel {α : Type} (x y : α) : Nat → α
  | 0 => x
  | _ + 1 => y
def P6.f (p : P6) (a : Option Addr) (cap : Nat) (k : Nat) : PP :=
  ⟨sel 2 6 k, sel 0 p.s k, sel 0 p.m k, sel 0 p.b k, sel 0 p.r k, sel 0 p.c k, .slice (sel none a k) (sel 0 p.l.length k) (sel 0 cap k)⟩
def P6.cells (p : P6) (a : Option Addr) (cap : Nat) : List Value := (p.f a cap 0).A.toList ++ (p.f a cap 1).A.toList
abbrev P6.R (p : P6) (a : Option Addr) (cap : Nat) : SA := SA.rds 1 (.slice a p.l.length cap) p.l.length (p.l.map vI)
def P6.enc (p : P6) : Nat → List UInt8
  | 0 => e2
  | _ + 1 => e6 p.s p.m p.b p.r p.c p.l
def P6.wire (p : P6) : Nat → List UInt8
  | 0 => []
  | k + 1 => p.wire k ++ p.enc k
theorem P6.at (p : P6) (a : Option Addr) (cap k : Nat) (hk : k < 2) (i : Nat) (u : Value) (h : (p.f a cap k).A.toList[i]? = some u) : (p.cells a cap)[k * 16 + i]? = some u := by
  have hi : i < 16 := by
    obtain ⟨h', -⟩ := List.getElem?_eq_some_iff.1 h
    exact h'
  unfold P6.cells
  match k, hk with
  | 0, _ => rw [List.getElem?_append_left (by show _ < 16; omega)]; simpa using h
  | 1, _ => rw [List.getElem?_append_right (by show 16 ≤ _; omega)]; simpa [show (p.f a cap 0).A.toList.length = 16 from rfl] using h
theorem e6_len (s m : UInt32) (b : UInt16) (r : UInt32) (c : UInt8) (l : List Int) : (e6 s m b r c l).length ≤ 4 * l.length + 25 := by
  have h1 := arrB_len l
  have h2 := body6_len s m b r c l
  have h3 := pad4_length (body6 s m b r c l)
  unfold e6
  simp only [List.length_append, r1.be2_len, List.length_cons, List.length_nil]
  omega
theorem P6.enc_len {p : P6} (ok : p.ok) (k : Nat) : (p.enc k).length ≤ 600 := by
  cases k with
  | zero => show 8 ≤ 600; decide
  | succ k => have := e6_len p.s p.m p.b p.r p.c p.l; have := ok.h2; show (e6 _ _ _ _ _ _).length ≤ _; omega
theorem P6.wire_len {p : P6} (ok : p.ok) (k : Nat) (hk : k ≤ 2) : (p.wire k).length ≤ 600 * k := by
  induction k with
  | zero => exact Nat.zero_le _
  | succ k ih => have := ih (by omega); have := p.enc_len ok k; show (p.wire k ++ p.enc k).length ≤ _; rw [List.length_append]; omega
theorem Cels.m16 {As : List SA} {A : SA} {n cap k g off : Nat} {cs l : List Value} (hA : Reads A 16 (.slice (some ⟨g, off, none⟩) n cap) n cs) (h : In A As) (hv : ∀ i u, l[i]? = some u → cs[k * 16 + i]? = some u) : Cels As ⟨g, off + k * 16, none⟩ l := fun w hw i u hi => by
  have := Cel.reads (p := ⟨g, off, none⟩) (j := k * 16 + i) hA h (hv i u hi) w hw
  rw [Addr.add_lit] at this ⊢
  rwa [Nat.add_assoc]
theorem Cel.m0 {As : List SA} {A : SA} {sz n cap g off : Nat} {cs : List Value} {v : Value} (hA : Reads A sz (.slice (some ⟨g, off, none⟩) n cap) n cs) (h : In A As) (hv : cs[0]? = some v) : Cel As ⟨g, off, none⟩ v := by
  have := Cel.reads (p := ⟨g, off, none⟩) (j := 0) hA h hv
  rwa [Addr.add_lit] at this
theorem good_pk {p : P6} (ok : p.ok) (a : Option Addr) (cap k : Nat) (L : List SA) :
    Fn Try.prog 27 [.agg (p.f a cap k).A] (p.R a cap :: L) (fun v L' => v = .bool true ∧ L' = p.R a cap :: L) := by
  have h2 := ok.h2
  cases k with
  | zero => exact good2_fn _
  | succ k => exact good6_fn _ _ _ _ _ _ _ _ ok.hr ok.h1 (by omega) ok.hf _
theorem build_pk {p : P6} (ok : p.ok) (a : Option Addr) (cap k : Nat) (L : List SA) :
    Fn Try.prog 28 [.agg (p.f a cap k).A] (p.R a cap :: L)
      (fun v L' => ∃ a' c', v = .slice a' (p.enc k).length c' ∧ L' = SA.owns 5 1 (.slice a' (p.enc k).length c') (p.enc k).length ((p.enc k).map v8) :: p.R a cap :: L) := by
  have h2 := ok.h2
  cases k with
  | zero => exact build2_fn _
  | succ k => exact build6_fn _ _ _ _ _ _ _ _ (by omega) ok.hf _
set_option maxHeartbeats 1000000 in
theorem Build_fn {p : P6} (ok : p.ok) (a : Option Addr) (cap : Nat) (A : SA) (g off c2 : Nat) (hA : Reads A 16 (.slice (some ⟨g, off, none⟩) 2 c2) 2 (p.cells a cap)) (L : List SA) :
    Fn Try.prog 15 [.slice (some ⟨g, off, none⟩) 2 c2] (p.R a cap :: A :: L)
      (fun v L' => ∃ a' c', v = .tuple #[.slice a' (p.wire 2).length c', vN 0] ∧ L' = SA.owns 5 1 (.slice a' (p.wire 2).length c') (p.wire 2).length ((p.wire 2).map v8) :: p.R a cap :: A :: L) := by
  refine Fn.of (N := 51) Try.func15 rfl rfl ?_
  intro Xh
  refine TC.seq ?_
  refine TC.region ?_
  refine TL.val rfl rfl rfl (Y.assign rfl rfl) ?_
  refine TL.val rfl rfl rfl (Y.assign rfl rfl) ?_
  refine TL.nil ?_
  refine TQ.next ?_
  refine TC.seq ?_
  refine TC.seq ?_
  refine TC.region ?_
  refine TL.val rfl rfl rfl (Y.move rfl rfl) ?_
  refine TL.val rfl rfl rfl (Y.len rfl Try.underlying56 rfl) ?_
  refine TL.val rfl rfl rfl (Y.bin rfl rfl rfl (br_ltN (n := 1))) ?_
  refine TL.is false isf ?_
  refine TL.val rfl rfl rfl (Y.move rfl rfl) ?_
  refine TL.valG rfl rfl rfl (Y.move rfl rfl) ?_
  refine TL.valG rfl rfl rfl (Y.len rfl Try.underlying56 rfl) ?_
  refine TL.valG rfl rfl rfl (Y.bin rfl rfl rfl (br_gtN (n := 8))) ?_
  refine TL.is false isf ?_
  refine TL.val rfl rfl rfl (Y.pick_f rfl rfl rfl) ?_
  refine TL.val rfl rfl rfl (Y.move rfl rfl) ?_
  refine TL.valG rfl rfl rfl (Y.move rfl rfl) ?_
  refine TL.valG rfl rfl rfl (Y.indexSlB (j := 0) (sz := 16) (q := off) rfl (by kernel_rfl) rfl rfl (by decide) nqq) ?_
  refine TL.valG rfl rfl rfl (by first | exact Y.fieldAddrJ rfl fo46_0 rfl nqq | exact Y.fieldAddr rfl fo46_0 rfl nqq) ?_
  refine TL.valG rfl rfl rfl (Y.load rfl sc3 rfl (Cel.m0 hA inn rfl)) ?_
  refine TL.as (vN 2) (by rfl) ?_
  refine TL.valG rfl rfl rfl (Y.bin rfl rfl rfl (br_neN (n := 1))) ?_
  refine TL.is true isf ?_
  refine TL.valG rfl rfl rfl (Y.move rfl rfl) ?_
  refine TL.valG rfl rfl rfl (Y.move rfl rfl) ?_
  refine TL.valG rfl rfl rfl (Y.indexSlB (j := 0) (sz := 16) (q := off) rfl (by kernel_rfl) rfl rfl (by decide) nqq) ?_
  refine TL.valG rfl rfl rfl (by first | exact Y.fieldAddrJ rfl fo46_0 rfl nqq | exact Y.fieldAddr rfl fo46_0 rfl nqq) ?_
  refine TL.valG rfl rfl rfl (Y.load rfl sc3 rfl (Cel.m0 hA inn rfl)) ?_
  refine TL.as (vN 2) (by rfl) ?_
  refine TL.valG rfl rfl rfl (Y.bin rfl rfl rfl (br_neN (n := 2))) ?_
  refine TL.is false isf ?_
  refine TL.valG rfl rfl rfl (Y.pick_t rfl rfl rfl) ?_
  refine TL.val rfl rfl rfl (Y.pick_f rfl rfl rfl) ?_
  refine TL.nil ?_
  refine TQ.next ?_
  refine TC.cond_f rfl ?_
  refine TC.skip ?_
  refine TQ.next ?_
  refine TC.seq ?_
  refine TC.region ?_
  refine TL.val rfl rfl rfl (Y.assign rfl rfl) ?_
  refine TL.nil ?_
  refine TQ.next ?_
  refine TC.seq ?_
  refine TC.seq ?_
  refine TC.region ?_
  refine TL.val rfl rfl rfl (Y.move rfl rfl) ?_
  refine TL.val rfl rfl rfl (Y.len rfl Try.underlying56 rfl) ?_
  refine TL.val rfl rfl rfl (Y.move rfl rfl) ?_
  refine TL.nil ?_
  refine TQ.next ?_
  refine TC.block ?_
  refine TC.to (Ent.nilOwn 5 1) ?_
  refine TC.loopF (ι := Nat × Option Addr × Nat) [2, 3] (fun i => i.1 ≤ 2) (fun i => [(30, some (vN i.1)), (4, some (.slice i.2.1 (p.wire i.1).length i.2.2))]) (fun i => [SA.owns 5 1 (.slice i.2.1 (p.wire i.1).length i.2.2) (p.wire i.1).length ((p.wire i.1).map v8)]) (fun i => 2 - i.1) ((0, none, 0)) (Nat.zero_le _) ⟨rfl, rfl, trivial⟩ (Pulls.cons pul Pulls.nil) ?_
  rintro ⟨k, wa, wc⟩ hk F' L' rfl hL'
  simp only [List.cons_append, List.nil_append] at hL'
  subst hL'
  simp only at hk ⊢
  have hwl := p.wire_len ok k hk
  have hel := p.enc_len ok k
  refine TC.seq ?_
  refine TC.region ?_
  refine TL.val rfl rfl rfl (Y.bin rfl rfl rfl (br_ltN)) ?_
  refine TL.nil ?_
  refine TQ.next ?_
  refine TC.seq ?_
  refine TC.cond rfl (fun c1 => ?_) (fun c1 => ?_)
  · try simp only [decide_eq_true_eq, decide_eq_false_iff_not, Bool.not_eq_true', Bool.not_eq_false', Bool.and_eq_true, Bool.or_eq_true, Nat.not_lt, Nat.not_le, beq_iff_eq, bne_iff_ne] at c1
    refine TC.skip ?_
    refine TQ.next ?_
    refine TC.seq ?_
    refine TC.block ?_
    refine TC.seq ?_
    refine TC.region ?_
    refine TL.val rfl rfl rfl (Y.move rfl rfl) ?_
    refine TL.val rfl rfl rfl (Y.assign rfl rfl) ?_
    refine TL.nil ?_
    refine TQ.next ?_
    refine TC.seq ?_
    refine TC.seq ?_
    refine TC.region ?_
    refine TL.val rfl rfl rfl (Y.move rfl rfl) ?_
    refine TL.val rfl rfl rfl (Y.move rfl rfl) ?_
    refine TL.val rfl rfl rfl (Y.indexSlB (j := k) (sz := 16) (q := off + k * 16) rfl (by kernel_rfl) rfl rfl (by omega) rfl) ?_
    refine TL.val rfl rfl rfl (Y.loadAgg rfl ag46 rfl (Cels.m16 (l := (p.f a cap k).A.toList) hA inn (p.at a cap k (by omega))) (by first | rfl | ((try simp only [List.length_map, List.length_set, List.length_replicate]); omega))) ?_
    refine TL.as (.agg (p.f a cap k).A) (by rfl) ?_
    refine TL.eff rfl rfl rfl (X.cl rfl Try.func27 rfl (h := (good_pk ok a cap k _))) ?_
    rintro _ _ ⟨rfl, rfl⟩
    refine TL.val rfl rfl rfl (Y.not rfl rfl) ?_
    refine TL.is false isf ?_
    refine TL.nil ?_
    refine TQ.next ?_
    refine TC.cond_f rfl ?_
    refine TC.skip ?_
    refine TQ.next ?_
    refine TC.region ?_
    refine TL.val rfl rfl rfl (Y.move rfl rfl) ?_
    refine TL.val rfl rfl rfl (Y.move rfl rfl) ?_
    refine TL.val rfl rfl rfl (Y.move rfl rfl) ?_
    refine TL.val rfl rfl rfl (Y.indexSlB (j := k) (sz := 16) (q := off + k * 16) rfl (by kernel_rfl) rfl rfl (by omega) rfl) ?_
    refine TL.val rfl rfl rfl (Y.loadAgg rfl ag46 rfl (Cels.m16 (l := (p.f a cap k).A.toList) hA inn (p.at a cap k (by omega))) (by first | rfl | ((try simp only [List.length_map, List.length_set, List.length_replicate]); omega))) ?_
    refine TL.as (.agg (p.f a cap k).A) (by rfl) ?_
    refine TL.eff rfl rfl rfl (X.cl rfl Try.func28 rfl (h := (build_pk ok a cap k _))) ?_
    rintro _ _ ⟨ea, ec, rfl, rfl⟩
    refine TL.eff rfl rfl rfl (X.appendS rfl el52 rfl pul rfl (by first | exact Src.owns Try.underlying52 inn | exact Src.rds Try.underlying52 inn | exact Src.reads (by assumption) Try.underlying52 inn) (by simp only [maxLen]; omega) (by omega)) ?_
    rintro _ _ ⟨a45, c45, rfl, rfl⟩
    rw [← List.map_append, ← List.length_append, show p.wire k ++ p.enc k = p.wire (k + 1) from rfl]
    refine TL.val rfl rfl rfl (Y.assign rfl rfl) ?_
    refine TL.nil ?_
    refine TQ.block_normal ?_
    refine TQ.next ?_
    refine TC.region ?_
    refine TL.val rfl rfl rfl (Y.bin rfl rfl rfl (br_addN (n := 1) (by omega))) ?_
    refine TL.val rfl rfl rfl (Y.move rfl rfl) ?_
    refine TL.nil ?_
    refine TQ.loopF ((k + 1, a45, c45)) (by show k + 1 ≤ 2; omega) (by show 2 - (k + 1) < 2 - k; omega) ⟨rfl, rfl, trivial⟩ grw ?_ ?_ ?_
    · kernel_rfl
    · rfl
    · simp only [List.cons_append, List.nil_append]
      exact ett
  · try simp only [decide_eq_true_eq, decide_eq_false_iff_not, Bool.not_eq_true', Bool.not_eq_false', Bool.and_eq_true, Bool.or_eq_true, Nat.not_lt, Nat.not_le, beq_iff_eq, bne_iff_ne] at c1
    obtain rfl : k = 2 := by omega
    refine TC.exit ?_
    refine TQ.then_exit ?_
    refine TQ.then_exit ?_
    refine TQ.block_exit ?_
    refine TQ.next ?_
    refine TC.seq ?_
    refine TC.seq ?_
    refine TC.region ?_
    refine TL.val rfl rfl rfl (Y.move rfl rfl) ?_
    refine TL.val rfl rfl rfl (Y.len rfl Try.underlying52 rfl) ?_
    refine TL.val rfl rfl rfl (Y.bin rfl rfl rfl (br_gtN (n := 1500))) ?_
    refine TL.is false isf ?_
    refine TL.nil ?_
    refine TQ.next ?_
    refine TC.cond_f rfl ?_
    refine TC.skip ?_
    refine TQ.next ?_
    refine TC.seq ?_
    refine TC.region ?_
    refine TL.val rfl rfl rfl (Y.move rfl rfl) ?_
    refine TL.val rfl rfl rfl (Y.assign rfl rfl) ?_
    refine TL.val rfl rfl rfl (Y.assign rfl rfl) ?_
    refine TL.nil ?_
    refine TQ.next ?_
    refine TC.ret ?_
    refine TQ.retE (res2 rfl rfl rfl) (⟨wa, wc, rfl, rfl⟩) ?_
    exact ett
end tw
end Go.Proofs.Ythamkpjiecigjaa

/- twcc, read and written: what stands where in the feedback's bytes. No walk. -/
namespace Go.Proofs.Ythamkpjiecigjaa
set_option linter.unusedVariables false
set_option linter.unusedSimpArgs false
open Go.RowKit
namespace tw
def rc (r : UInt32) (c : UInt8) : UInt32 := shl32 r 8 ||| c.toUInt32
theorem rc_nat {r : UInt32} (c : UInt8) (h : r.toNat < 16777216) : (rc r c).toNat = r.toNat * 256 + c.toNat := by
  have hc := c.toNat_lt
  simp only [rc, shl32]
  rw [UInt32.toNat_or]
  simp
  rw [Nat.mod_eq_of_lt (by omega), or_add _ _ (by omega)]
theorem rc_r {r : UInt32} (c : UInt8) (h : r.toNat < 16777216) : shr32 (rc r c) 8 = r := by
  have h1 := rc_nat c h
  have hc := c.toNat_lt
  apply UInt32.toNat_inj.1
  simp only [shr32]
  rw [UInt32.toNat_ofNat_of_lt' (by show _ < 4294967296; omega)]
  omega
theorem rc_c {r : UInt32} (c : UInt8) (h : r.toNat < 16777216) : (rc r c).toUInt8 = c := by
  have h1 := rc_nat c h
  have hc := c.toNat_lt
  apply UInt8.toNat_inj.1
  rw [UInt32.toNat_toUInt8]
  omega
theorem num_lt2 (l : List UInt8) (k : Nat) : (num64 ((l.drop k).take 2)).toNat < 65536 := by
  match h : l.drop k with
  | [] => simp [num64]
  | [x] =>
    have hx := x.toNat_lt
    rw [show ([x] : List UInt8).take 2 = [x] from rfl, show [x] = [x] from rfl]
    have e : num64 [x] = UInt64.ofNat x.toNat := by
      simp only [num64, List.foldl_cons, List.foldl_nil]
      rw [show (0 : UInt64) = UInt64.ofNat 0 from rfl, step64 0 x (by omega), Nat.zero_mul, Nat.zero_add]
    rw [e, UInt64.toNat_ofNat_of_lt' (by show _ < 18446744073709551616; omega)]
    omega
  | x :: y :: r =>
    have hx := x.toNat_lt; have hy := y.toNat_lt
    rw [show (x :: y :: r).take 2 = [x, y] from rfl, num64_2]
    omega
structure Q6 (q : List UInt8) (p : P6) : Prop where
  z0 : q[0]? = some 143
  z1 : q[1]? = some 205
  s : at4 q 4 = p.s
  m : at4 q 8 = p.m
  b : at2 q 12 = p.b.toNat
  n : at2 q 14 = p.l.length
  x : shr32 (at4 q 16) 8 = p.r
  c : q[19]? = some p.c
  len : 20 + rows p.l.length * 2 + (farL p.l).length ≤ q.length
  le : q.length ≤ 600
  mks : ∀ j, j < rows p.l.length → at2 q (20 + j * 2) = mkw p.l j 7
  far1 : ∀ (k : Nat) (x : Int), p.l[k]? = some x → mk x = 1 → q[20 + rows p.l.length * 2 + (farL (p.l.take k)).length]? = some (byteI x)
  far2 : ∀ (k : Nat) (x : Int), p.l[k]? = some x → mk x = 2 → at2 q (20 + rows p.l.length * 2 + (farL (p.l.take k)).length) = (x % 65536).toNat
theorem marks_split (l : List Int) : ∀ R j, j < R → ∃ t, marksN l R = marksN l j ++ (r1.be2 (mkw l j 7) ++ t)
  | 0, _, h => by omega
  | R + 1, j, h => by
    by_cases hj : j = R
    · subst hj; exact ⟨[], by rw [marksN_s, List.append_nil]⟩
    · obtain ⟨t, ht⟩ := marks_split l R j (by omega)
      exact ⟨t ++ r1.be2 (mkw l R 7), by rw [marksN_s, ht]; simp only [List.append_assoc]⟩
theorem far_split (l : List Int) (k : Nat) (x : Int) (h : l[k]? = some x) : ∃ t, farL l = farL (l.take k) ++ (farB x ++ t) := by
  refine ⟨farL (l.drop (k + 1)), ?_⟩
  have h1 := farL_s l k x h
  rw [← List.append_assoc, ← h1]
  unfold farL
  rw [← List.flatMap_append, List.take_append_drop]
theorem mk_1 {x : Int} (h : mk x = 1) : farB x = [byteI x] ∧ 0 ≤ x ∧ x ≤ 255 := by
  by_cases h1 : x = 65536
  · rw [mk, if_pos h1] at h; omega
  · by_cases h2 : 0 ≤ x ∧ x ≤ 255
    · exact ⟨(farB_in h1 h2).1, h2⟩
    · have := (farB_out h1 h2).2; omega
theorem mk_2 {x : Int} (h : mk x = 2) : farB x = [byteI (x / 256), byteI x] := by
  by_cases h1 : x = 65536
  · rw [mk, if_pos h1] at h; omega
  · by_cases h2 : 0 ≤ x ∧ x ≤ 255
    · have := (farB_in h1 h2).2; omega
    · exact (farB_out h1 h2).1
theorem mk_0 {x : Int} (h : mk x = 0) : x = 65536 := by
  by_cases h1 : x = 65536
  · exact h1
  · by_cases h2 : 0 ≤ x ∧ x ≤ 255
    · have := (farB_in h1 h2).2; omega
    · have := (farB_out h1 h2).2; omega
theorem byteI_nat (x : Int) : ((byteI x).toNat : Int) = x % 256 := by
  rw [byteI, UInt8.toNat_ofNat_of_lt' (by show _ < 256; omega)]; omega
theorem at2_two (p t : List UInt8) (x : Int) (k : Nat) (hp : p.length = k) : at2 (p ++ ([byteI (x / 256), byteI x] ++ t)) k = (x % 65536).toNat := by
  subst hp
  unfold at2
  rw [List.drop_left, show ([byteI (x / 256), byteI x] ++ t).take 2 = [byteI (x / 256), byteI x] from rfl, num64_2]
  have h1 := byteI_nat (x / 256)
  have h2 := byteI_nat x
  omega
theorem Q6.e6 {p : P6} (ok : p.ok) : Q6 (tw.e6 p.s p.m p.b p.r p.c p.l) p := by
  obtain ⟨w, hw⟩ : ∃ w, (pad4 (body6 p.s p.m p.b p.r p.c p.l)).length / 4 = w := ⟨_, rfl⟩
  obtain ⟨Z, hZ⟩ : ∃ Z : List UInt8, List.replicate ((4 - (body6 p.s p.m p.b p.r p.c p.l).length % 4) % 4) (0 : UInt8) = Z := ⟨_, rfl⟩
  have hpad : pad4 (body6 p.s p.m p.b p.r p.c p.l) = body6 p.s p.m p.b p.r p.c p.l ++ Z := by rw [pad4, hZ]
  have E : tw.e6 p.s p.m p.b p.r p.c p.l = 143 :: 205 :: (r1.be2 w ++ (r1.be4 p.s ++ (r1.be4 p.m ++ (r1.be2 p.b.toNat ++ (r1.be2 p.l.length ++ (r1.be4 (rc p.r p.c) ++ (marksN p.l (rows p.l.length) ++ (farL p.l ++ Z)))))))) := by
    unfold tw.e6
    rw [hw, hpad]
    unfold body6 arrB rc
    simp only [List.append_assoc, List.cons_append, List.nil_append]
  have hle := P6.enc_len ok 1
  have hbt := p.b.toNat_lt
  have h2 := ok.h2
  obtain ⟨P, hP, hPl⟩ : ∃ P : List UInt8, 143 :: 205 :: (r1.be2 w ++ (r1.be4 p.s ++ (r1.be4 p.m ++ (r1.be2 p.b.toNat ++ (r1.be2 p.l.length ++ r1.be4 (rc p.r p.c)))))) = P ∧ P.length = 20 := ⟨_, rfl, rfl⟩
  have E2 : tw.e6 p.s p.m p.b p.r p.c p.l = P ++ (marksN p.l (rows p.l.length) ++ (farL p.l ++ Z)) := by
    rw [E, ← hP]; simp only [List.append_assoc, List.cons_append]
  refine ⟨by rw [E]; rfl, by rw [E]; rfl, ?_, ?_, ?_, ?_, ?_, ?_, ?_, hle, ?_, ?_, ?_⟩
  · rw [E]
    exact at4_be (143 :: 205 :: r1.be2 w) _ p.s 4 rfl
  · rw [show tw.e6 p.s p.m p.b p.r p.c p.l = (143 :: 205 :: (r1.be2 w ++ r1.be4 p.s)) ++ (r1.be4 p.m ++ (r1.be2 p.b.toNat ++ (r1.be2 p.l.length ++ (r1.be4 (rc p.r p.c) ++ (marksN p.l (rows p.l.length) ++ (farL p.l ++ Z)))))) by rw [E]; simp only [List.append_assoc, List.cons_append]]
    exact at4_be _ _ p.m 8 rfl
  · rw [show tw.e6 p.s p.m p.b p.r p.c p.l = (143 :: 205 :: (r1.be2 w ++ (r1.be4 p.s ++ r1.be4 p.m))) ++ (r1.be2 p.b.toNat ++ (r1.be2 p.l.length ++ (r1.be4 (rc p.r p.c) ++ (marksN p.l (rows p.l.length) ++ (farL p.l ++ Z))))) by rw [E]; simp only [List.append_assoc, List.cons_append]]
    exact at2_be _ _ p.b.toNat 12 rfl hbt
  · rw [show tw.e6 p.s p.m p.b p.r p.c p.l = (143 :: 205 :: (r1.be2 w ++ (r1.be4 p.s ++ (r1.be4 p.m ++ r1.be2 p.b.toNat)))) ++ (r1.be2 p.l.length ++ (r1.be4 (rc p.r p.c) ++ (marksN p.l (rows p.l.length) ++ (farL p.l ++ Z)))) by rw [E]; simp only [List.append_assoc, List.cons_append]]
    exact at2_be _ _ p.l.length 14 rfl (by omega)
  · rw [show tw.e6 p.s p.m p.b p.r p.c p.l = (143 :: 205 :: (r1.be2 w ++ (r1.be4 p.s ++ (r1.be4 p.m ++ (r1.be2 p.b.toNat ++ r1.be2 p.l.length))))) ++ (r1.be4 (rc p.r p.c) ++ (marksN p.l (rows p.l.length) ++ (farL p.l ++ Z))) by rw [E]; simp only [List.append_assoc, List.cons_append]]
    rw [at4_be _ _ (rc p.r p.c) 16 rfl, rc_r _ ok.hr]
  · rw [E]
    show some (rc p.r p.c).toUInt8 = _
    rw [rc_c _ ok.hr]
  · rw [E2]; simp only [List.length_append, hPl, marksN_len]; omega
  · intro j hj
    obtain ⟨t, ht⟩ := marks_split p.l (rows p.l.length) j hj
    rw [show tw.e6 p.s p.m p.b p.r p.c p.l = (P ++ marksN p.l j) ++ (r1.be2 (mkw p.l j 7) ++ (t ++ (farL p.l ++ Z))) by rw [E2, ht]; simp only [List.append_assoc]]
    exact at2_be _ _ _ _ (by rw [List.length_append, marksN_len, hPl]; omega) (mkw_lt _ _ _ (by omega))
  · intro k x hx hm
    obtain ⟨t, ht⟩ := far_split p.l k x hx
    rw [show tw.e6 p.s p.m p.b p.r p.c p.l = (P ++ (marksN p.l (rows p.l.length) ++ farL (p.l.take k))) ++ ([byteI x] ++ (t ++ Z)) by rw [E2, ht, (mk_1 hm).1]; simp only [List.append_assoc]]
    rw [List.getElem?_append_right (by simp only [List.length_append, hPl, marksN_len]; omega)]
    rw [show 20 + rows p.l.length * 2 + (farL (p.l.take k)).length - (P ++ (marksN p.l (rows p.l.length) ++ farL (p.l.take k))).length = 0 by simp only [List.length_append, hPl, marksN_len]; omega]
    rfl
  · intro k x hx hm
    obtain ⟨t, ht⟩ := far_split p.l k x hx
    rw [show tw.e6 p.s p.m p.b p.r p.c p.l = (P ++ (marksN p.l (rows p.l.length) ++ farL (p.l.take k))) ++ ([byteI (x / 256), byteI x] ++ (t ++ Z)) by rw [E2, ht, mk_2 hm]; simp only [List.append_assoc]]
    exact at2_two _ _ x _ (by simp only [List.length_append, hPl, marksN_len]; omega)
end tw
end Go.Proofs.Ythamkpjiecigjaa

/- twcc, read and written: the two packets, read; walked. -/
namespace Go.Proofs.Ythamkpjiecigjaa
set_option linter.unusedVariables false
set_option linter.unusedSimpArgs false
open Go.RowKit
namespace tw
namespace FxTr7
set_option maxRecDepth 100000
theorem ag46 : Program.aggN Try.prog 46 = some 16 := by kernel_rfl
theorem el37 : Elt Try.prog 37 3 1 8 (.int .i64 0) := ⟨Try.underlying37, by kernel_rfl, rfl, by decide, by simp [Value.cells, Value.oneCell']⟩
theorem fo46_0 : Program.fieldOff Try.prog 46 0 = some 0 := by kernel_rfl
theorem fo46_1 : Program.fieldOff Try.prog 46 1 = some 1 := by kernel_rfl
theorem fo46_11 : Program.fieldOff Try.prog 46 11 = some 11 := by kernel_rfl
theorem fo46_12 : Program.fieldOff Try.prog 46 12 = some 12 := by kernel_rfl
theorem fo46_13 : Program.fieldOff Try.prog 46 13 = some 13 := by kernel_rfl
theorem fo46_14 : Program.fieldOff Try.prog 46 14 = some 14 := by kernel_rfl
theorem fo46_2 : Program.fieldOff Try.prog 46 2 = some 2 := by kernel_rfl
theorem sc37 : Program.isSc Try.prog 37 = true := by kernel_rfl
theorem sc5 : Program.isSc Try.prog 5 = true := by kernel_rfl
theorem sl52 : Program.slI Try.prog 52 = some 1 := by kernel_rfl
theorem sz5 : (Try.prog.info? 5).map (·.size) = some 1 := by kernel_rfl
theorem zc46 : Program.zeroC Try.prog 46 = some #[.int .i64 0, .int .u32 0, .int .u32 0, .int .u64 0, .int .u32 0, .int .u32 0, .int .u32 0, .slice none 0 0, .string .empty, .slice none 0 0, .slice none 0 0, .int .u16 0, .int .u32 0, .int .u8 0, .slice none 0 0, .slice none 0 0] := by kernel_rfl
end FxTr7
open FxTr7
theorem n2_fn (A : SA) (a : Option Addr) (n cap k h : Nat) (l : List UInt8) (hA : Reads A 1 (.slice a n cap) n (l.map v8)) (hh : h = k + 2) (hn : k + 2 ≤ n) (hl : l.length = n) (L : List SA) :
    Fn Try.prog 29 [cutV a cap k h 1] (A :: L) (fun v L' => v = v64 (num64 ((l.drop k).take 2)) ∧ L' = A :: L) := by
  subst hh
  have h1 := Reads.cut8 hA (show k ≤ k + 2 by omega) hn
  rw [show k + 2 - k = 2 by omega] at h1
  unfold cutV at h1 ⊢
  rw [show k + 2 - k = 2 by omega] at h1 ⊢
  exact Number_gen A _ 2 _ _ h1 (by rw [List.length_take, List.length_drop]; omega) L
theorem farL_take (l : List Int) (k : Nat) : (farL (l.take k)).length ≤ (farL l).length := by
  have h : farL l = farL (l.take k) ++ farL (l.drop k) := by unfold farL; rw [← List.flatMap_append, List.take_append_drop]
  rw [h, List.length_append]; omega
theorem farL_next (l : List Int) (k : Nat) (x : Int) (h : l[k]? = some x) : (farL (l.take (k + 1))).length = (farL (l.take k)).length + mk x := by
  rw [farL_s l k x h, List.length_append, farB_len]
theorem ofN16 {x : UInt64} {b : UInt16} (h : x.toNat = b.toNat) : x.toUInt16 = b := by
  have := b.toNat_lt
  apply UInt16.toNat_inj.1
  rw [UInt64.toNat_toUInt16, h]; omega
theorem i16_v {x : Int} (h1 : -32768 ≤ x) (h2 : x ≤ 32767) (n : Nat) (h : n = (x % 65536).toNat) : IntKind.i16.wrap (n : Int) = x := by
  subst h
  simp [IntKind.wrap, IntKind.bits, IntKind.signed]
  omega
set_option maxHeartbeats 1000000 in
theorem read2_fn (A : SA) (g off cap : Nat) (hA : Reads A 1 (.slice (some ⟨g, off, none⟩) 8 cap) 8 (e2.map v8)) (L : List SA) :
    Fn Try.prog 30 [.slice (some ⟨g, off, none⟩) 8 cap] (A :: L) (fun v L' => v = .tuple #[.agg (PK 2 0 0 0 0 0 nilS), .bool true] ∧ L' = A :: L) := by
  refine Fn.of (N := 378) Try.func30 rfl rfl ?_
  intro Xh
  refine TC.seq ?_
  refine TC.region ?_
  refine TL.eff rfl rfl rfl (X.alloc rfl zc46) ?_
  rintro _ _ ⟨b2, rfl, rfl⟩
  refine TL.val rfl rfl rfl (Y.assign rfl rfl) ?_
  refine TL.nil ?_
  refine TQ.next ?_
  refine TC.seq ?_
  refine TC.draws 11 [A] (by kernel_rfl) (by kernel_rfl) hld ?_
  refine TA.tk 0 rfl rfl (Y.move rfl rfl) ?_
  refine TA.tk 1 rfl rfl (Y.indexSlB (j := 0) (sz := 1) (q := off) rfl (by kernel_rfl) rfl rfl (by decide) nqq) ?_
  refine TA.tk 2 rfl rfl (Y.load rfl sc5 rfl (Cel.m0 hA inn rfl)) ?_
  refine TA.as (v8 128) (by rfl) ?_
  refine TA.tk 3 rfl rfl (Y.bin rfl rfl rfl (br_and8 (y := 31))) ?_
  refine TA.tk 4 rfl rfl (Y.conv rfl Try.underlying5 Try.underlying3 rfl (cv_8_N)) ?_
  refine TA.as (vN 0) (by rfl) ?_
  refine TA.tk 5 rfl rfl (Y.move rfl rfl) ?_
  refine TA.tk 6 rfl rfl (Y.indexSlB (j := 1) (sz := 1) (q := off + 1) rfl (by kernel_rfl) rfl rfl (by decide) nqq) ?_
  refine TA.tk 7 rfl rfl (Y.load rfl sc5 rfl (Cel.atS (l := e2) (i := 1) (x := 201) hA inn rfl rfl)) ?_
  refine TA.as (v8 201) (by rfl) ?_
  refine TA.tk 8 rfl rfl (Y.conv rfl Try.underlying5 Try.underlying3 rfl (cv_8_N)) ?_
  refine TA.as (vN 201) (by rfl) ?_
  refine TA.tk 9 rfl rfl (Y.assign rfl rfl) ?_
  refine TA.tk 10 rfl rfl (Y.assign rfl rfl) ?_
  refine TA.done (by kernel_rfl) ?_
  refine TQ.next ?_
  refine TC.seq ?_
  refine TC.region ?_
  refine TL.eff rfl rfl rfl (X.alloc rfl zc46) ?_
  rintro _ _ ⟨b6, rfl, rfl⟩
  refine TL.nil ?_
  refine TQ.next ?_
  refine TC.seq ?_
  refine TC.seq ?_
  refine TC.region ?_
  refine TL.val rfl rfl rfl (Y.move rfl rfl) ?_
  refine TL.val rfl rfl rfl (Y.bin rfl rfl rfl (br_neN (n := 203))) ?_
  refine TL.is true isf ?_
  refine TL.nil ?_
  refine TQ.next ?_
  refine TC.cond_t rfl ?_
  refine TC.seq ?_
  refine TC.seq ?_
  refine TC.region ?_
  refine TL.val rfl rfl rfl (Y.move rfl rfl) ?_
  refine TL.val rfl rfl rfl (Y.len rfl Try.underlying52 rfl) ?_
  refine TL.val rfl rfl rfl (Y.bin rfl rfl rfl (br_ltN (n := 8))) ?_
  refine TL.is false isf ?_
  refine TL.nil ?_
  refine TQ.next ?_
  refine TC.cond_f rfl ?_
  refine TC.skip ?_
  refine TQ.next ?_
  refine TC.region ?_
  refine TL.val rfl rfl rfl (Y.move rfl rfl) ?_
  refine TL.eff rfl rfl rfl (X.cl rfl Try.func42 rfl (h := (n32_fn A (some ⟨g, off, none⟩) 8 cap 4 e2 hA rfl (by decide) _))) ?_
  rintro _ _ ⟨rfl, rfl⟩
  refine TL.as (v32 0) (by rfl) ?_
  refine TL.val rfl rfl rfl (by first | exact Y.fieldAddrJ rfl fo46_1 rfl nqq | exact Y.fieldAddr rfl fo46_1 rfl nqq) ?_
  refine TL.eff0 rfl rfl (X.store (cs' := PK 0 0 0 0 0 0 nilS) rfl (by kernel_rfl) rfl rfl rfl pul (by show 1 < 16; decide) rfl) ?_
  rintro _ _ rfl
  refine TL.nil ?_
  refine TQ.next ?_
  refine TC.seq ?_
  refine TC.region ?_
  refine TL.val rfl rfl rfl (Y.assign rfl rfl) ?_
  refine TL.nil ?_
  refine TQ.next ?_
  refine TC.seq ?_
  refine TC.block ?_
  refine TC.seq ?_
  refine TC.region ?_
  refine TL.val rfl rfl rfl (Y.move rfl rfl) ?_
  refine TL.val rfl rfl rfl (Y.bin rfl rfl rfl (br_eqN (n := 200))) ?_
  refine TL.is false isf ?_
  refine TL.val rfl rfl rfl (Y.move rfl rfl) ?_
  refine TL.not rfl rfl rfl ?_
  refine TL.not rfl rfl rfl ?_
  refine TL.not rfl rfl rfl ?_
  refine TL.val rfl rfl rfl (Y.pick_f rfl rfl rfl) ?_
  refine TL.val rfl rfl rfl (Y.assign rfl rfl) ?_
  refine TL.nil ?_
  refine TQ.next ?_
  refine TC.cond_f rfl ?_
  refine TC.seq ?_
  refine TC.region ?_
  refine TL.val rfl rfl rfl (Y.move rfl rfl) ?_
  refine TL.val rfl rfl rfl (Y.bin rfl rfl rfl (br_eqN (n := 201))) ?_
  refine TL.is true isf ?_
  refine TL.val rfl rfl rfl (Y.assign rfl rfl) ?_
  refine TL.nil ?_
  refine TQ.next ?_
  refine TC.cond_t rfl ?_
  refine TC.region ?_
  refine TL.val rfl rfl rfl (by first | exact Y.fieldAddrJ rfl fo46_0 rfl nqq | exact Y.fieldAddr rfl fo46_0 rfl nqq) ?_
  refine TL.eff0 rfl rfl (X.store (cs' := PK 2 0 0 0 0 0 nilS) rfl (by kernel_rfl) rfl rfl rfl pul (by show 0 < 16; decide) rfl) ?_
  rintro _ _ rfl
  refine TL.nil ?_
  refine TQ.block_normal ?_
  refine TQ.next ?_
  refine TC.seq ?_
  refine TC.seq ?_
  refine TC.region ?_
  refine TL.val rfl rfl rfl (Y.move rfl rfl) ?_
  refine TL.val rfl rfl rfl (Y.bin rfl rfl rfl (br_eqN (n := 200))) ?_
  refine TL.is false isf ?_
  refine TL.val rfl rfl rfl (Y.move rfl rfl) ?_
  refine TL.valG rfl rfl rfl (Y.move rfl rfl) ?_
  refine TL.valG rfl rfl rfl (Y.bin rfl rfl rfl (br_eqN (n := 201))) ?_
  refine TL.is true isf ?_
  refine TL.val rfl rfl rfl (Y.pick_f rfl rfl rfl) ?_
  refine TL.nil ?_
  refine TQ.next ?_
  refine TC.cond_t rfl ?_
  refine TC.seq ?_
  refine TC.block ?_
  refine TC.loopF (ι := Unit) [] (fun _ => True) (fun _ => [(7, some (vN 8))]) (fun _ => []) (fun _ => 0) (()) (trivial) ⟨rfl, trivial⟩ Pulls.nil ?_
  rintro ⟨⟩ - F' L' rfl hL'
  simp only [List.cons_append, List.nil_append] at hL'
  subst hL'
  refine TC.seq ?_
  refine TC.seq ?_
  refine TC.region ?_
  refine TL.val rfl rfl rfl (Y.move rfl rfl) ?_
  refine TL.val rfl rfl rfl (Y.bin rfl rfl rfl (br_addN (n := 24) (by omega))) ?_
  refine TL.val rfl rfl rfl (Y.move rfl rfl) ?_
  refine TL.val rfl rfl rfl (Y.len rfl Try.underlying52 rfl) ?_
  refine TL.val rfl rfl rfl (Y.bin rfl rfl rfl (br_leN)) ?_
  refine TL.is false isf ?_
  refine TL.nil ?_
  refine TQ.next ?_
  refine TC.cond_f rfl ?_
  refine TC.exit ?_
  refine TQ.then_exit ?_
  refine TQ.then_exit ?_
  refine TQ.block_exit ?_
  refine TQ.next ?_
  refine TC.seq ?_
  refine TC.region ?_
  refine TL.val rfl rfl rfl (Y.loadAgg rfl ag46 rfl (Cels.all (cs := PK 2 0 0 0 0 0 nilS) inn) (by first | rfl | ((try simp only [List.length_map, List.length_set, List.length_replicate]); omega))) ?_
  refine TL.as (.agg (PK 2 0 0 0 0 0 nilS)) (by rfl) ?_
  refine TL.eff0 rfl rfl (X.storeAll (vs := PK 2 0 0 0 0 0 nilS) rfl (by kernel_rfl) (by rfl) rfl rfl (allOne (by rfl)) pul (by rfl)) ?_
  rintro _ _ rfl
  refine TL.val rfl rfl rfl (Y.assign rfl rfl) ?_
  refine TL.nil ?_
  refine TQ.next ?_
  refine TC.ret ?_
  refine TQ.then_ret ?_
  refine TQ.retE (resL rfl (Res.agg rfl ag46 (Cels.all (cs := PK 2 0 0 0 0 0 nilS) inn) (by first | rfl | assumption | omega) (Res.tmp rfl Res.nil))) (⟨rfl, rfl⟩) ?_
  exact ett
set_option maxHeartbeats 4000000 in
theorem read6_fn {p : P6} (ok : p.ok) (q : List UInt8) (Q : Q6 q p) (A : SA) (g off n cap : Nat) (hA : Reads A 1 (.slice (some ⟨g, off, none⟩) n cap) n (q.map v8)) (hn : q.length = n) (L : List SA) :
    Fn Try.prog 30 [.slice (some ⟨g, off, none⟩) n cap] (A :: L)
      (fun v L' => ∃ a' c', v = .tuple #[.agg (PK 6 p.s p.m p.b p.r p.c (.slice a' p.l.length c')), .bool true] ∧ L' = SA.owns 3 1 (.slice a' p.l.length c') p.l.length (p.l.map vI) :: A :: L) := by
  have hle := Q.le
  have hln := Q.len
  have hp2 := ok.h2
  have hp1 := ok.h1
  have hn2 := num_lt2 q
  refine Fn.of (N := 378) Try.func30 rfl rfl ?_
  intro Xh
  refine TC.know (reads_cap hA (a := some ⟨g, off, none⟩) (n := n) (cap := cap) (cs := q.map v8) inn) ?_
  rintro ⟨hc1, hc2, -, -⟩
  simp only [maxLen] at hc2
  refine TC.seq ?_
  refine TC.region ?_
  refine TL.eff rfl rfl rfl (X.alloc rfl zc46) ?_
  rintro _ _ ⟨b2, rfl, rfl⟩
  refine TL.val rfl rfl rfl (Y.assign rfl rfl) ?_
  refine TL.nil ?_
  refine TQ.next ?_
  refine TC.seq ?_
  refine TC.draws 11 [A] (by kernel_rfl) (by kernel_rfl) hld ?_
  refine TA.tk 0 rfl rfl (Y.move rfl rfl) ?_
  refine TA.tk 1 rfl rfl (Y.indexSlB (j := 0) (sz := 1) (q := off) rfl (by kernel_rfl) rfl rfl (by omega) nqq) ?_
  refine TA.tk 2 rfl rfl (Y.load rfl sc5 rfl (Cel.m0 hA inn (by rw [List.getElem?_map, Q.z0]; rfl))) ?_
  refine TA.as (v8 143) (by rfl) ?_
  refine TA.tk 3 rfl rfl (Y.bin rfl rfl rfl (br_and8 (y := 31))) ?_
  refine TA.tk 4 rfl rfl (Y.conv rfl Try.underlying5 Try.underlying3 rfl (cv_8_N)) ?_
  refine TA.as (vN 15) (by rfl) ?_
  refine TA.tk 5 rfl rfl (Y.move rfl rfl) ?_
  refine TA.tk 6 rfl rfl (Y.indexSlB (j := 1) (sz := 1) (q := off + 1) rfl (by kernel_rfl) rfl rfl (by omega) nqq) ?_
  refine TA.tk 7 rfl rfl (Y.load rfl sc5 rfl (Cel.atS (l := q) (i := 1) (x := 205) hA inn Q.z1 rfl)) ?_
  refine TA.as (v8 205) (by rfl) ?_
  refine TA.tk 8 rfl rfl (Y.conv rfl Try.underlying5 Try.underlying3 rfl (cv_8_N)) ?_
  refine TA.as (vN 205) (by rfl) ?_
  refine TA.tk 9 rfl rfl (Y.assign rfl rfl) ?_
  refine TA.tk 10 rfl rfl (Y.assign rfl rfl) ?_
  refine TA.done (by kernel_rfl) ?_
  refine TQ.next ?_
  refine TC.seq ?_
  refine TC.region ?_
  refine TL.eff rfl rfl rfl (X.alloc rfl zc46) ?_
  rintro _ _ ⟨b6, rfl, rfl⟩
  refine TL.nil ?_
  refine TQ.next ?_
  refine TC.seq ?_
  refine TC.seq ?_
  refine TC.region ?_
  refine TL.val rfl rfl rfl (Y.move rfl rfl) ?_
  refine TL.val rfl rfl rfl (Y.bin rfl rfl rfl (br_neN (n := 203))) ?_
  refine TL.is true isf ?_
  refine TL.nil ?_
  refine TQ.next ?_
  refine TC.cond_t rfl ?_
  refine TC.seq ?_
  refine TC.seq ?_
  refine TC.region ?_
  refine TL.val rfl rfl rfl (Y.move rfl rfl) ?_
  refine TL.val rfl rfl rfl (Y.len rfl Try.underlying52 rfl) ?_
  refine TL.val rfl rfl rfl (Y.bin rfl rfl rfl (br_ltN (n := 8))) ?_
  refine TL.is false (by (simp; omega)) ?_
  refine TL.nil ?_
  refine TQ.next ?_
  refine TC.cond_f rfl ?_
  refine TC.skip ?_
  refine TQ.next ?_
  refine TC.region ?_
  refine TL.val rfl rfl rfl (Y.move rfl rfl) ?_
  refine TL.eff rfl rfl rfl (X.cl rfl Try.func42 rfl (h := (n32_fn A (some ⟨g, off, none⟩) n cap 4 q hA hn (by omega) _))) ?_
  rintro _ _ ⟨rfl, rfl⟩
  refine TL.as (v32 p.s) (by (rw [Q.s])) ?_
  refine TL.val rfl rfl rfl (by first | exact Y.fieldAddrJ rfl fo46_1 rfl nqq | exact Y.fieldAddr rfl fo46_1 rfl nqq) ?_
  refine TL.eff0 rfl rfl (X.store (cs' := PK 0 p.s 0 0 0 0 nilS) rfl (by kernel_rfl) rfl rfl rfl pul (by show 1 < 16; decide) rfl) ?_
  rintro _ _ rfl
  refine TL.nil ?_
  refine TQ.next ?_
  refine TC.seq ?_
  refine TC.region ?_
  refine TL.val rfl rfl rfl (Y.assign rfl rfl) ?_
  refine TL.nil ?_
  refine TQ.next ?_
  refine TC.seq ?_
  refine TC.block ?_
  refine TC.seq ?_
  refine TC.region ?_
  refine TL.val rfl rfl rfl (Y.move rfl rfl) ?_
  refine TL.val rfl rfl rfl (Y.bin rfl rfl rfl (br_eqN (n := 200))) ?_
  refine TL.is false isf ?_
  refine TL.val rfl rfl rfl (Y.move rfl rfl) ?_
  refine TL.not rfl rfl rfl ?_
  refine TL.not rfl rfl rfl ?_
  refine TL.not rfl rfl rfl ?_
  refine TL.val rfl rfl rfl (Y.pick_f rfl rfl rfl) ?_
  refine TL.val rfl rfl rfl (Y.assign rfl rfl) ?_
  refine TL.nil ?_
  refine TQ.next ?_
  refine TC.cond_f rfl ?_
  refine TC.seq ?_
  refine TC.region ?_
  refine TL.val rfl rfl rfl (Y.move rfl rfl) ?_
  refine TL.val rfl rfl rfl (Y.bin rfl rfl rfl (br_eqN (n := 201))) ?_
  refine TL.is false isf ?_
  refine TL.val rfl rfl rfl (Y.assign rfl rfl) ?_
  refine TL.nil ?_
  refine TQ.next ?_
  refine TC.cond_f rfl ?_
  refine TC.seq ?_
  refine TC.region ?_
  refine TL.val rfl rfl rfl (Y.move rfl rfl) ?_
  refine TL.val rfl rfl rfl (Y.bin rfl rfl rfl (br_eqN (n := 202))) ?_
  refine TL.is false isf ?_
  refine TL.val rfl rfl rfl (Y.move rfl rfl) ?_
  refine TL.not rfl rfl rfl ?_
  refine TL.not rfl rfl rfl ?_
  refine TL.not rfl rfl rfl ?_
  refine TL.val rfl rfl rfl (Y.pick_f rfl rfl rfl) ?_
  refine TL.val rfl rfl rfl (Y.assign rfl rfl) ?_
  refine TL.nil ?_
  refine TQ.next ?_
  refine TC.cond_f rfl ?_
  refine TC.seq ?_
  refine TC.region ?_
  refine TL.val rfl rfl rfl (Y.move rfl rfl) ?_
  refine TL.val rfl rfl rfl (Y.bin rfl rfl rfl (br_eqN (n := 203))) ?_
  refine TL.is false isf ?_
  refine TL.val rfl rfl rfl (Y.assign rfl rfl) ?_
  refine TL.nil ?_
  refine TQ.next ?_
  refine TC.cond_f rfl ?_
  refine TC.seq ?_
  refine TC.region ?_
  refine TL.val rfl rfl rfl (Y.move rfl rfl) ?_
  refine TL.val rfl rfl rfl (Y.len rfl Try.underlying52 rfl) ?_
  refine TL.val rfl rfl rfl (Y.bin rfl rfl rfl (br_ltN (n := 12))) ?_
  refine TL.is false (by (simp; omega)) ?_
  refine TL.val rfl rfl rfl (Y.assign rfl rfl) ?_
  refine TL.nil ?_
  refine TQ.next ?_
  refine TC.cond_f rfl ?_
  refine TC.skip ?_
  refine TQ.block_normal ?_
  refine TQ.next ?_
  refine TC.seq ?_
  refine TC.seq ?_
  refine TC.region ?_
  refine TL.val rfl rfl rfl (Y.move rfl rfl) ?_
  refine TL.val rfl rfl rfl (Y.bin rfl rfl rfl (br_eqN (n := 200))) ?_
  refine TL.is false isf ?_
  refine TL.val rfl rfl rfl (Y.move rfl rfl) ?_
  refine TL.valG rfl rfl rfl (Y.move rfl rfl) ?_
  refine TL.valG rfl rfl rfl (Y.bin rfl rfl rfl (br_eqN (n := 201))) ?_
  refine TL.is false isf ?_
  refine TL.val rfl rfl rfl (Y.pick_f rfl rfl rfl) ?_
  refine TL.nil ?_
  refine TQ.next ?_
  refine TC.cond_f rfl ?_
  refine TC.skip ?_
  refine TQ.next ?_
  refine TC.seq ?_
  refine TC.region ?_
  refine TL.val rfl rfl rfl (Y.move rfl rfl) ?_
  refine TL.eff rfl rfl rfl (X.cl rfl Try.func42 rfl (h := (n32_fn A (some ⟨g, off, none⟩) n cap 8 q hA hn (by omega) _))) ?_
  rintro _ _ ⟨rfl, rfl⟩
  refine TL.as (v32 p.m) (by (rw [Q.m])) ?_
  refine TL.val rfl rfl rfl (by first | exact Y.fieldAddrJ rfl fo46_2 rfl nqq | exact Y.fieldAddr rfl fo46_2 rfl nqq) ?_
  refine TL.eff0 rfl rfl (X.store (cs' := PK 0 p.s p.m 0 0 0 nilS) rfl (by kernel_rfl) rfl rfl rfl pul (by show 2 < 16; decide) rfl) ?_
  rintro _ _ rfl
  refine TL.nil ?_
  refine TQ.next ?_
  refine TC.seq ?_
  refine TC.block ?_
  refine TC.seq ?_
  refine TC.region ?_
  refine TL.val rfl rfl rfl (Y.move rfl rfl) ?_
  refine TL.val rfl rfl rfl (Y.bin rfl rfl rfl (br_eqN (n := 205))) ?_
  refine TL.is true isf ?_
  refine TL.val rfl rfl rfl (Y.move rfl rfl) ?_
  refine TL.valG rfl rfl rfl (Y.move rfl rfl) ?_
  refine TL.valG rfl rfl rfl (Y.bin rfl rfl rfl (br_eqN (n := 1))) ?_
  refine TL.is false isf ?_
  refine TL.val rfl rfl rfl (Y.pick_t rfl rfl rfl) ?_
  refine TL.val rfl rfl rfl (Y.assign rfl rfl) ?_
  refine TL.nil ?_
  refine TQ.next ?_
  refine TC.cond_f rfl ?_
  refine TC.seq ?_
  refine TC.region ?_
  refine TL.val rfl rfl rfl (Y.move rfl rfl) ?_
  refine TL.val rfl rfl rfl (Y.bin rfl rfl rfl (br_eqN (n := 205))) ?_
  refine TL.is true isf ?_
  refine TL.val rfl rfl rfl (Y.move rfl rfl) ?_
  refine TL.valG rfl rfl rfl (Y.move rfl rfl) ?_
  refine TL.valG rfl rfl rfl (Y.bin rfl rfl rfl (br_eqN (n := 15))) ?_
  refine TL.is true isf ?_
  refine TL.val rfl rfl rfl (Y.pick_t rfl rfl rfl) ?_
  refine TL.val rfl rfl rfl (Y.move rfl rfl) ?_
  refine TL.valG rfl rfl rfl (Y.move rfl rfl) ?_
  refine TL.valG rfl rfl rfl (Y.len rfl Try.underlying52 rfl) ?_
  refine TL.valG rfl rfl rfl (Y.bin rfl rfl rfl (br_geN (n := 20))) ?_
  refine TL.is true (by (simp; omega)) ?_
  refine TL.val rfl rfl rfl (Y.pick_t rfl rfl rfl) ?_
  refine TL.val rfl rfl rfl (Y.assign rfl rfl) ?_
  refine TL.nil ?_
  refine TQ.next ?_
  refine TC.cond_t rfl ?_
  refine TC.seq ?_
  refine TC.draws 18 [A] (by kernel_rfl) (by kernel_rfl) hld ?_
  refine TA.tk 0 rfl rfl (Y.move rfl rfl) ?_
  refine TA.tk 1 rfl rfl (Y.sliceLH (k := 12) (h := 14) rfl Try.underlying52 sz5 rfl rfl rfl (by omega) (by omega)) ?_
  refine TA.tk 4 rfl rfl (Y.move rfl rfl) ?_
  refine TA.tk 7 rfl rfl (Y.move rfl rfl) ?_
  refine TA.tk 8 rfl rfl (Y.indexSlB (j := 19) (sz := 1) (q := off + 19) rfl (by kernel_rfl) rfl rfl (by omega) nqq) ?_
  refine TA.tk 9 rfl rfl (Y.load rfl sc5 rfl (Cel.atS (l := q) (i := 19) (x := p.c) hA inn Q.c rfl)) ?_
  refine TA.as (v8 p.c) (by rfl) ?_
  refine TA.tk 10 rfl rfl (by first | exact Y.fieldAddrJ rfl fo46_0 rfl nqq | exact Y.fieldAddr rfl fo46_0 rfl nqq) ?_
  refine TA.one 2 (by kernel_rfl) rfl rfl rfl rfl (X.cl rfl Try.func29 rfl (h := (n2_fn A (some ⟨g, off, none⟩) n cap 12 14 q hA rfl (by omega) hn _))) ?_
  rintro _ _ ⟨rfl, rfl⟩
  refine ⟨(Or.inr hld), ?_⟩
  refine TA.tk 3 rfl rfl (Y.conv rfl Try.underlying33 Try.underlying29 rfl (cv_64_16)) ?_
  refine TA.as (v16 p.b) (by (rw [ofN16 Q.b])) ?_
  refine TA.one 5 (by kernel_rfl) rfl rfl rfl rfl (X.cl rfl Try.func42 rfl (h := (n32_fn A (some ⟨g, off, none⟩) n cap 16 q hA hn (by omega) _))) ?_
  rintro _ _ ⟨rfl, rfl⟩
  refine ⟨(Or.inr hld), ?_⟩
  refine TA.tk 6 rfl rfl (Y.bin rfl rfl rfl (br_shr32 (n := 8))) ?_
  refine TA.as (v32 p.r) (by (rw [Q.x])) ?_
  refine TA.one0 11 (by kernel_rfl) rfl rfl rfl (X.store (cs' := PK 6 p.s p.m 0 0 0 nilS) rfl (by kernel_rfl) rfl rfl rfl pul (by show 0 < 16; decide) rfl) ?_
  rintro _ _ rfl
  refine ⟨(Or.inr hld), ?_⟩
  refine TA.tk 12 rfl rfl (by first | exact Y.fieldAddrJ rfl fo46_11 rfl nqq | exact Y.fieldAddr rfl fo46_11 rfl nqq) ?_
  refine TA.one0 13 (by kernel_rfl) rfl rfl rfl (X.store (cs' := PK 6 p.s p.m p.b 0 0 nilS) rfl (by kernel_rfl) rfl rfl rfl pul (by show 11 < 16; decide) rfl) ?_
  rintro _ _ rfl
  refine ⟨(Or.inr hld), ?_⟩
  refine TA.tk 14 rfl rfl (by first | exact Y.fieldAddrJ rfl fo46_12 rfl nqq | exact Y.fieldAddr rfl fo46_12 rfl nqq) ?_
  refine TA.one0 15 (by kernel_rfl) rfl rfl rfl (X.store (cs' := PK 6 p.s p.m p.b p.r 0 nilS) rfl (by kernel_rfl) rfl rfl rfl pul (by show 12 < 16; decide) rfl) ?_
  rintro _ _ rfl
  refine ⟨(Or.inr hld), ?_⟩
  refine TA.tk 16 rfl rfl (by first | exact Y.fieldAddrJ rfl fo46_13 rfl nqq | exact Y.fieldAddr rfl fo46_13 rfl nqq) ?_
  refine TA.one0 17 (by kernel_rfl) rfl rfl rfl (X.store (cs' := PK 6 p.s p.m p.b p.r p.c nilS) rfl (by kernel_rfl) rfl rfl rfl pul (by show 13 < 16; decide) rfl) ?_
  rintro _ _ rfl
  refine ⟨(Or.inr hld), ?_⟩
  refine TA.done (by kernel_rfl) ?_
  refine TQ.next ?_
  refine TC.seq ?_
  refine TC.region ?_
  refine TL.val rfl rfl rfl (Y.move rfl rfl) ?_
  refine TL.val rfl rfl rfl (Y.sliceLH (k := 14) (h := 16) rfl Try.underlying52 sz5 rfl rfl rfl (by omega) (by omega)) ?_
  refine TL.eff rfl rfl rfl (X.cl rfl Try.func29 rfl (h := (n2_fn A (some ⟨g, off, none⟩) n cap 14 16 q hA rfl (by omega) hn _))) ?_
  rintro _ _ ⟨rfl, rfl⟩
  refine TL.val rfl rfl rfl (Y.conv rfl Try.underlying33 Try.underlying3 rfl (cv_64_N (by have := hn2 14; omega))) ?_
  refine TL.as (vN p.l.length) (by (show vN (at2 q 14) = _; rw [Q.n])) ?_
  refine TL.val rfl rfl rfl (Y.assign rfl rfl) ?_
  refine TL.nil ?_
  refine TQ.next ?_
  refine TC.seq ?_
  refine TC.region ?_
  refine TL.val rfl rfl rfl (Y.move rfl rfl) ?_
  refine TL.val rfl rfl rfl (Y.bin rfl rfl rfl (br_addN (n := 6) (by omega))) ?_
  refine TL.val rfl rfl rfl (Y.bin rfl rfl rfl (br_quoN (n := 7) (by omega) (by omega))) ?_
  refine TL.val rfl rfl rfl (Y.bin rfl rfl rfl (br_mulN (n := 2) (by omega))) ?_
  refine TL.val rfl rfl rfl (Y.bin rfl rfl rfl (br_addN (m := 20) (by omega))) ?_
  refine TL.as (vN (20 + rows p.l.length * 2)) (by rfl) ?_
  refine TL.val rfl rfl rfl (Y.assign rfl rfl) ?_
  refine TL.nil ?_
  refine TQ.next ?_
  refine TC.seq ?_
  refine TC.seq ?_
  refine TC.region ?_
  refine TL.val rfl rfl rfl (Y.move rfl rfl) ?_
  refine TL.val rfl rfl rfl (Y.move rfl rfl) ?_
  refine TL.nil ?_
  refine TQ.next ?_
  refine TC.block ?_
  refine TC.to (Ent.nilOwn 3 1) ?_
  have hrw : rows p.l.length = (p.l.length + 6) / 7 := rfl
  refine TC.loopF (ι := Nat × Option Addr × Nat) [3] (fun i => i.1 ≤ p.l.length) (fun i => [(258, some (vN i.1)), (15, some (vN (20 + rows p.l.length * 2 + (farL (p.l.take i.1)).length)))]) (fun i => [SA.blk b6 (PK 6 p.s p.m p.b p.r p.c (.slice i.2.1 i.1 i.2.2)) 46, SA.owns 3 1 (.slice i.2.1 i.1 i.2.2) i.1 ((p.l.take i.1).map vI)]) (fun i => p.l.length - i.1) ((0, none, 0)) (Nat.zero_le _) ⟨rfl, rfl, trivial⟩ (Pulls.cons pul (Pulls.cons pul Pulls.nil)) ?_
  rintro ⟨k, ra, rc'⟩ hk F' L' rfl hL'
  simp only [List.cons_append, List.nil_append] at hL'
  subst hL'
  simp only at hk ⊢
  have hfk := farL_take p.l k
  refine TC.seq ?_
  refine TC.region ?_
  refine TL.val rfl rfl rfl (Y.bin rfl rfl rfl (br_ltN)) ?_
  refine TL.nil ?_
  refine TQ.next ?_
  refine TC.seq ?_
  refine TC.cond rfl (fun c10 => ?_) (fun c10 => ?_)
  · try simp only [decide_eq_true_eq, decide_eq_false_iff_not, Bool.not_eq_true', Bool.not_eq_false', Bool.and_eq_true, Bool.or_eq_true, Nat.not_lt, Nat.not_le, beq_iff_eq, bne_iff_ne] at c10
    refine TC.skip ?_
    refine TQ.next ?_
    refine TC.seq ?_
    refine TC.block ?_
    refine TC.seq ?_
    refine TC.region ?_
    refine TL.val rfl rfl rfl (Y.move rfl rfl) ?_
    refine TL.val rfl rfl rfl (Y.assign rfl rfl) ?_
    refine TL.nil ?_
    refine TQ.next ?_
    refine TC.seq ?_
    refine TC.seq ?_
    obtain ⟨x, hx, hxm⟩ := getS (l := p.l) (i := k) (by omega)
    have hfx := ok.hf x hxm
    have hnx := farL_next p.l k x hx
    have hfk1 := farL_take p.l (k + 1)
    have hmx := mk_le x
    obtain ⟨pq, hpq⟩ : ∃ q, 2 ^ (12 - 2 * (k % 7)) = q := ⟨_, rfl⟩
    have hw7 := mkw_lt p.l (k / 7) 7 (by omega)
    have hdv : mkw p.l (k / 7) 7 / pq < 65536 := Nat.lt_of_le_of_lt (Nat.div_le_self _ _) hw7
    have hand : mkw p.l (k / 7) 7 / pq &&& 3 = mk x := by
      rw [← hpq, show (3 : Nat) = 2 ^ 2 - 1 from rfl, Nat.and_two_pow_sub_one_eq_mod]
      show mkw p.l (k / 7) 7 / 2 ^ (12 - 2 * (k % 7)) % 4 = _
      rw [mkw_get _ _ _ (by omega), show 7 * (k / 7) + k % 7 = k by omega, mkAt_of hx]
    refine TC.region ?_
    refine TL.val rfl rfl rfl (Y.move rfl rfl) ?_
    refine TL.val rfl rfl rfl (Y.move rfl rfl) ?_
    refine TL.val rfl rfl rfl (Y.len rfl Try.underlying52 rfl) ?_
    refine TL.val rfl rfl rfl (Y.bin rfl rfl rfl (br_gtN)) ?_
    refine TL.is false (by (simp; omega)) ?_
    refine TL.val rfl rfl rfl (Y.move rfl rfl) ?_
    refine TL.valG rfl rfl rfl (Y.move rfl rfl) ?_
    refine TL.valG rfl rfl rfl (Y.bin rfl rfl rfl (br_gtN (n := 255))) ?_
    refine TL.is false (by (simp; omega)) ?_
    refine TL.val rfl rfl rfl (Y.pick_f rfl rfl rfl) ?_
    refine TL.nil ?_
    refine TQ.next ?_
    refine TC.cond_f rfl ?_
    refine TC.skip ?_
    refine TQ.next ?_
    refine TC.seq ?_
    refine TC.region ?_
    refine TL.val rfl rfl rfl (Y.move rfl rfl) ?_
    refine TL.val rfl rfl rfl (Y.move rfl rfl) ?_
    refine TL.val rfl rfl rfl (Y.bin rfl rfl rfl (br_quoN (n := 7) (by omega) (by omega))) ?_
    refine TL.val rfl rfl rfl (Y.bin rfl rfl rfl (br_mulN (n := 2) (by omega))) ?_
    refine TL.val rfl rfl rfl (Y.bin rfl rfl rfl (br_addN (m := 20) (by omega))) ?_
    refine TL.val rfl rfl rfl (Y.move rfl rfl) ?_
    refine TL.val rfl rfl rfl (Y.bin rfl rfl rfl (br_quoN (n := 7) (by omega) (by omega))) ?_
    refine TL.val rfl rfl rfl (Y.bin rfl rfl rfl (br_mulN (n := 2) (by omega))) ?_
    refine TL.val rfl rfl rfl (Y.bin rfl rfl rfl (br_addN (m := 22) (by omega))) ?_
    refine TL.val rfl rfl rfl (Y.sliceLH rfl Try.underlying52 sz5 rfl rfl rfl (by omega) (by omega)) ?_
    refine TL.eff rfl rfl rfl (X.cl rfl Try.func29 rfl (h := (n2_fn A (some ⟨g, off, none⟩) n cap (20 + k / 7 * 2) (22 + k / 7 * 2) q hA (by omega) (by omega) hn _))) ?_
    rintro _ _ ⟨rfl, rfl⟩
    refine TL.val rfl rfl rfl (Y.conv rfl Try.underlying33 Try.underlying3 rfl (cv_64_N (by have := hn2 (20 + k / 7 * 2); omega))) ?_
    refine TL.as (vN (mkw p.l (k / 7) 7)) (by (show vN (at2 q (20 + k / 7 * 2)) = _; rw [Q.mks (k / 7) (by omega)])) ?_
    refine TL.val rfl rfl rfl (Y.move rfl rfl) ?_
    refine TL.val rfl rfl rfl (Y.bin rfl rfl rfl (br_remN (n := 7) (by omega))) ?_
    refine TL.val rfl rfl rfl (Y.bin rfl rfl rfl (br_mulN (m := 2) (by omega))) ?_
    refine TL.val rfl rfl rfl (Y.bin rfl rfl rfl (br_subN (m := 12) (by omega) (by omega))) ?_
    refine TL.val rfl rfl rfl (Y.conv rfl Try.underlying3 Try.underlying106 rfl (cv_N_64n (by omega))) ?_
    refine TL.val rfl rfl rfl (Y.bin rfl rfl rfl (br_shrN (n := 12 - 2 * (k % 7)) (c := pq) hpq (by omega))) ?_
    refine TL.val rfl rfl rfl (Y.bin rfl rfl rfl (br_andN (n := 3) (by omega) (by omega))) ?_
    refine TL.as (vN (mk x)) (by (rw [hand])) ?_
    refine TL.val rfl rfl rfl (Y.assign rfl rfl) ?_
    refine TL.nil ?_
    refine TQ.next ?_
    refine TC.seq ?_
    refine TC.block ?_
    refine TC.seq ?_
    refine TC.region ?_
    refine TL.val rfl rfl rfl (Y.move rfl rfl) ?_
    refine TL.val rfl rfl rfl (Y.bin rfl rfl rfl (br_eqN (n := 0))) ?_
    refine TL.val rfl rfl rfl (Y.assign rfl rfl) ?_
    refine TL.nil ?_
    refine TQ.next ?_
    refine TC.cond rfl (fun c12 => ?_) (fun c12 => ?_)
    · try simp only [decide_eq_true_eq, decide_eq_false_iff_not, Bool.not_eq_true', Bool.not_eq_false', Bool.and_eq_true, Bool.or_eq_true, Nat.not_lt, Nat.not_le, beq_iff_eq, bne_iff_ne] at c12
      obtain rfl := mk_0 c12
      refine TC.region ?_
      refine TL.val rfl rfl rfl (by first | exact Y.fieldAddrJ rfl fo46_14 rfl nqq | exact Y.fieldAddr rfl fo46_14 rfl nqq) ?_
      refine TL.val rfl rfl rfl (Y.load rfl sc37 rfl celD) ?_
      refine TL.eff rfl rfl rfl (X.lit rfl el37 rfl rfl rfl (by decide) rfl) ?_
      rintro _ _ ⟨g307, rfl, rfl⟩
      refine TL.eff rfl rfl rfl (X.appendS rfl el37 rfl pul rfl (by first | exact Src.owns Try.underlying37 inn | exact Src.rds Try.underlying37 inn | exact Src.reads (by assumption) Try.underlying37 inn) (by simp only [maxLen]; omega) (by omega)) ?_
      rintro _ _ ⟨a308, c308, rfl, rfl⟩
      rw [show (p.l.take k).map vI ++ [vI 65536] = (p.l.take (k + 1)).map vI by rw [List.take_add_one, hx, List.map_append]; rfl]
      refine TL.val rfl rfl rfl (by first | exact Y.fieldAddrJ rfl fo46_14 rfl nqq | exact Y.fieldAddr rfl fo46_14 rfl nqq) ?_
      refine TL.eff0 rfl rfl (X.store (cs' := PK 6 p.s p.m p.b p.r p.c (.slice a308 (k + 1) c308)) rfl (by kernel_rfl) rfl rfl rfl pul (by show 14 < 16; decide) rfl) ?_
      rintro _ _ rfl
      refine TL.nil ?_
      refine TQ.block_normal ?_
      refine TQ.next ?_
      refine TC.region ?_
      refine TL.val rfl rfl rfl (Y.move rfl rfl) ?_
      refine TL.val rfl rfl rfl (Y.move rfl rfl) ?_
      refine TL.val rfl rfl rfl (Y.bin rfl rfl rfl (br_addN (by omega))) ?_
      refine TL.as (vN (20 + rows p.l.length * 2 + (farL (p.l.take (k + 1))).length)) (by (rw [hnx, Nat.add_assoc _ _ (mk _)])) ?_
      refine TL.val rfl rfl rfl (Y.assign rfl rfl) ?_
      refine TL.nil ?_
      refine TQ.block_normal ?_
      refine TQ.next ?_
      refine TC.region ?_
      refine TL.val rfl rfl rfl (Y.bin rfl rfl rfl (br_addN (n := 1) (by omega))) ?_
      refine TL.val rfl rfl rfl (Y.move rfl rfl) ?_
      refine TL.nil ?_
      refine TQ.loopF ((by first | exact (k + 1, a308, c308) | exact (k + 1, a333, c333) | exact (k + 1, a300, c300))) (by show k + 1 ≤ p.l.length; omega) (by show p.l.length - (k + 1) < p.l.length - k; omega) ⟨rfl, rfl, trivial⟩ grw ?_ ?_ ?_
      · kernel_rfl
      · rfl
      · simp only [List.cons_append, List.nil_append]
        exact ett
    · try simp only [decide_eq_true_eq, decide_eq_false_iff_not, Bool.not_eq_true', Bool.not_eq_false', Bool.and_eq_true, Bool.or_eq_true, Nat.not_lt, Nat.not_le, beq_iff_eq, bne_iff_ne] at c12
      refine TC.seq ?_
      refine TC.region ?_
      refine TL.val rfl rfl rfl (Y.move rfl rfl) ?_
      refine TL.val rfl rfl rfl (Y.move rfl rfl) ?_
      refine TL.val rfl rfl rfl (Y.bin rfl rfl rfl (br_addN (by omega))) ?_
      refine TL.val rfl rfl rfl (Y.move rfl rfl) ?_
      refine TL.val rfl rfl rfl (Y.len rfl Try.underlying52 rfl) ?_
      refine TL.val rfl rfl rfl (Y.bin rfl rfl rfl (br_gtN)) ?_
      refine TL.is false (by (simp; omega)) ?_
      refine TL.val rfl rfl rfl (Y.move rfl rfl) ?_
      refine TL.valG rfl rfl rfl (Y.move rfl rfl) ?_
      refine TL.valG rfl rfl rfl (Y.bin rfl rfl rfl (br_eqN (n := 3))) ?_
      refine TL.is false (by (simp; omega)) ?_
      refine TL.val rfl rfl rfl (Y.pick_f rfl rfl rfl) ?_
      refine TL.val rfl rfl rfl (Y.assign rfl rfl) ?_
      refine TL.nil ?_
      refine TQ.next ?_
      refine TC.cond_f rfl ?_
      refine TC.seq ?_
      refine TC.region ?_
      refine TL.val rfl rfl rfl (Y.move rfl rfl) ?_
      refine TL.val rfl rfl rfl (Y.bin rfl rfl rfl (br_eqN (n := 1))) ?_
      refine TL.val rfl rfl rfl (Y.assign rfl rfl) ?_
      refine TL.nil ?_
      refine TQ.next ?_
      refine TC.cond rfl (fun c14 => ?_) (fun c14 => ?_)
      · try simp only [decide_eq_true_eq, decide_eq_false_iff_not, Bool.not_eq_true', Bool.not_eq_false', Bool.and_eq_true, Bool.or_eq_true, Nat.not_lt, Nat.not_le, beq_iff_eq, bne_iff_ne] at c14
        have hq1 := Q.far1 k x hx (by assumption)
        have hx1 := mk_1 (x := x) (by assumption)
        have hbn := byteI_nat x
        refine TC.draws 10 [A, SA.blk b6 (PK 6 p.s p.m p.b p.r p.c (.slice ra k rc')) 46] (by kernel_rfl) (by kernel_rfl) hld ?_
        refine TA.tk 0 rfl rfl (by first | exact Y.fieldAddrJ rfl fo46_14 rfl nqq | exact Y.fieldAddr rfl fo46_14 rfl nqq) ?_
        refine TA.tk 1 rfl rfl (Y.load rfl sc37 rfl celD) ?_
        refine TA.tk 2 rfl rfl (Y.move rfl rfl) ?_
        refine TA.tk 3 rfl rfl (Y.move rfl rfl) ?_
        refine TA.tk 4 rfl rfl (by first | exact Y.indexSlB rfl sl52 rfl rfl (by omega) nqq | exact Y.indexSl rfl sl52 rfl rfl (by omega) nqq) ?_
        refine TA.tk 5 rfl rfl (Y.load rfl sc5 rfl (Cel.atS (l := q) hA inn hq1 rfl)) ?_
        refine TA.as (v8 (byteI x)) (by rfl) ?_
        refine TA.tk 6 rfl rfl (Y.conv rfl Try.underlying5 Try.underlying3 rfl (cv_8_N)) ?_
        refine TA.as (vI x) (by (show Value.int .i64 _ = Value.int .i64 _; rw [hbn]; congr 1; omega)) ?_
        refine TA.one 7 (by kernel_rfl) rfl rfl rfl rfl (X.lit rfl el37 rfl rfl rfl (by decide) rfl) ?_
        rintro _ _ ⟨g332, rfl, rfl⟩
        refine ⟨(Or.inr hld), ?_⟩
        refine TA.one 8 (by kernel_rfl) rfl rfl rfl rfl (X.appendS rfl el37 rfl pul rfl (by first | exact Src.owns Try.underlying37 inn | exact Src.rds Try.underlying37 inn | exact Src.reads (by assumption) Try.underlying37 inn) (by simp only [maxLen]; omega) (by omega)) ?_
        rintro _ _ ⟨a333, c333, rfl, rfl⟩
        rw [show (p.l.take k).map vI ++ [vI x] = (p.l.take (k + 1)).map vI by rw [List.take_add_one, hx, List.map_append]; rfl]
        refine ⟨(Or.inr hld), ?_⟩
        refine TA.tk 9 rfl rfl (by first | exact Y.fieldAddrJ rfl fo46_14 rfl nqq | exact Y.fieldAddr rfl fo46_14 rfl nqq) ?_
        refine TA.one0 10 (by kernel_rfl) rfl rfl rfl (X.store (cs' := PK 6 p.s p.m p.b p.r p.c (.slice a333 (k + 1) c333)) rfl (by kernel_rfl) rfl rfl rfl pul (by show 14 < 16; decide) rfl) ?_
        rintro _ _ rfl
        refine ⟨(Or.inl (by kernel_rfl)), ?_⟩
        refine TA.done (by kernel_rfl) ?_
        refine TQ.block_normal ?_
        refine TQ.next ?_
        refine TC.region ?_
        refine TL.val rfl rfl rfl (Y.move rfl rfl) ?_
        refine TL.val rfl rfl rfl (Y.move rfl rfl) ?_
        refine TL.val rfl rfl rfl (Y.bin rfl rfl rfl (br_addN (by omega))) ?_
        refine TL.as (vN (20 + rows p.l.length * 2 + (farL (p.l.take (k + 1))).length)) (by (rw [hnx, Nat.add_assoc _ _ (mk _)])) ?_
        refine TL.val rfl rfl rfl (Y.assign rfl rfl) ?_
        refine TL.nil ?_
        refine TQ.block_normal ?_
        refine TQ.next ?_
        refine TC.region ?_
        refine TL.val rfl rfl rfl (Y.bin rfl rfl rfl (br_addN (n := 1) (by omega))) ?_
        refine TL.val rfl rfl rfl (Y.move rfl rfl) ?_
        refine TL.nil ?_
        refine TQ.loopF ((by first | exact (k + 1, a308, c308) | exact (k + 1, a333, c333) | exact (k + 1, a300, c300))) (by show k + 1 ≤ p.l.length; omega) (by show p.l.length - (k + 1) < p.l.length - k; omega) ⟨rfl, rfl, trivial⟩ grw ?_ ?_ ?_
        · kernel_rfl
        · rfl
        · simp only [List.cons_append, List.nil_append]
          exact ett
      · try simp only [decide_eq_true_eq, decide_eq_false_iff_not, Bool.not_eq_true', Bool.not_eq_false', Bool.and_eq_true, Bool.or_eq_true, Nat.not_lt, Nat.not_le, beq_iff_eq, bne_iff_ne] at c14
        have hmk2 : mk x = 2 := by omega
        have hq2 := Q.far2 k x hx hmk2
        have hxn : ¬ x = 65536 := fun h => by rw [h] at hmk2; exact absurd hmk2 (by decide)
        obtain ⟨hxa, hxb⟩ : -32768 ≤ x ∧ x ≤ 32767 := hfx.resolve_left hxn
        refine TC.draws 13 [A, SA.blk b6 (PK 6 p.s p.m p.b p.r p.c (.slice ra k rc')) 46] (by kernel_rfl) (by kernel_rfl) hld ?_
        refine TA.tk 0 rfl rfl (by first | exact Y.fieldAddrJ rfl fo46_14 rfl nqq | exact Y.fieldAddr rfl fo46_14 rfl nqq) ?_
        refine TA.tk 1 rfl rfl (Y.load rfl sc37 rfl celD) ?_
        refine TA.tk 2 rfl rfl (Y.move rfl rfl) ?_
        refine TA.tk 3 rfl rfl (Y.move rfl rfl) ?_
        refine TA.tk 4 rfl rfl (Y.move rfl rfl) ?_
        refine TA.tk 5 rfl rfl (Y.bin rfl rfl rfl (br_addN (n := 2) (by omega))) ?_
        refine TA.tk 6 rfl rfl (Y.sliceLH rfl Try.underlying52 sz5 rfl rfl rfl (by omega) (by omega)) ?_
        refine TA.one 7 (by kernel_rfl) rfl rfl rfl rfl (X.cl rfl Try.func29 rfl (h := (n2_fn A (some ⟨g, off, none⟩) n cap (20 + rows p.l.length * 2 + (farL (p.l.take k)).length) (20 + rows p.l.length * 2 + (farL (p.l.take k)).length + 2) q hA rfl (by omega) hn _))) ?_
        rintro _ _ ⟨rfl, rfl⟩
        refine ⟨(Or.inr hld), ?_⟩
        refine TA.tk 8 rfl rfl (Y.conv rfl Try.underlying33 Try.underlying101 rfl (i16_v hxa hxb _ hq2)) ?_
        refine TA.tk 9 rfl rfl (Y.conv rfl Try.underlying101 Try.underlying3 rfl (wrap_i64 x (by omega) (by omega))) ?_
        refine TA.one 10 (by kernel_rfl) rfl rfl rfl rfl (X.lit rfl el37 rfl rfl rfl (by decide) rfl) ?_
        rintro _ _ ⟨g299, rfl, rfl⟩
        refine ⟨(Or.inr hld), ?_⟩
        refine TA.one 11 (by kernel_rfl) rfl rfl rfl rfl (X.appendS rfl el37 rfl pul rfl (by first | exact Src.owns Try.underlying37 inn | exact Src.rds Try.underlying37 inn | exact Src.reads (by assumption) Try.underlying37 inn) (by simp only [maxLen]; omega) (by omega)) ?_
        rintro _ _ ⟨a300, c300, rfl, rfl⟩
        rw [show (p.l.take k).map vI ++ [vI x] = (p.l.take (k + 1)).map vI by rw [List.take_add_one, hx, List.map_append]; rfl]
        refine ⟨(Or.inr hld), ?_⟩
        refine TA.tk 12 rfl rfl (by first | exact Y.fieldAddrJ rfl fo46_14 rfl nqq | exact Y.fieldAddr rfl fo46_14 rfl nqq) ?_
        refine TA.one0 13 (by kernel_rfl) rfl rfl rfl (X.store (cs' := PK 6 p.s p.m p.b p.r p.c (.slice a300 (k + 1) c300)) rfl (by kernel_rfl) rfl rfl rfl pul (by show 14 < 16; decide) rfl) ?_
        rintro _ _ rfl
        refine ⟨(Or.inl (by kernel_rfl)), ?_⟩
        refine TA.done (by kernel_rfl) ?_
        refine TQ.block_normal ?_
        refine TQ.next ?_
        refine TC.region ?_
        refine TL.val rfl rfl rfl (Y.move rfl rfl) ?_
        refine TL.val rfl rfl rfl (Y.move rfl rfl) ?_
        refine TL.val rfl rfl rfl (Y.bin rfl rfl rfl (br_addN (by omega))) ?_
        refine TL.as (vN (20 + rows p.l.length * 2 + (farL (p.l.take (k + 1))).length)) (by (rw [hnx, Nat.add_assoc _ _ (mk _)])) ?_
        refine TL.val rfl rfl rfl (Y.assign rfl rfl) ?_
        refine TL.nil ?_
        refine TQ.block_normal ?_
        refine TQ.next ?_
        refine TC.region ?_
        refine TL.val rfl rfl rfl (Y.bin rfl rfl rfl (br_addN (n := 1) (by omega))) ?_
        refine TL.val rfl rfl rfl (Y.move rfl rfl) ?_
        refine TL.nil ?_
        refine TQ.loopF ((by first | exact (k + 1, a308, c308) | exact (k + 1, a333, c333) | exact (k + 1, a300, c300))) (by show k + 1 ≤ p.l.length; omega) (by show p.l.length - (k + 1) < p.l.length - k; omega) ⟨rfl, rfl, trivial⟩ grw ?_ ?_ ?_
        · kernel_rfl
        · rfl
        · simp only [List.cons_append, List.nil_append]
          exact ett
  · try simp only [decide_eq_true_eq, decide_eq_false_iff_not, Bool.not_eq_true', Bool.not_eq_false', Bool.and_eq_true, Bool.or_eq_true, Nat.not_lt, Nat.not_le, beq_iff_eq, bne_iff_ne] at c10
    obtain rfl : k = p.l.length := by omega
    rw [List.take_length]
    refine TC.exit ?_
    refine TQ.then_exit ?_
    refine TQ.then_exit ?_
    refine TQ.block_exit ?_
    refine TQ.next ?_
    refine TC.seq ?_
    refine TC.region ?_
    refine TL.val rfl rfl rfl (Y.loadAgg rfl ag46 rfl (Cels.all (cs := PK 6 p.s p.m p.b p.r p.c (.slice ra p.l.length rc')) inn) (by first | rfl | ((try simp only [List.length_map, List.length_set, List.length_replicate]); omega))) ?_
    refine TL.as (.agg (PK 6 p.s p.m p.b p.r p.c (.slice ra p.l.length rc'))) (by rfl) ?_
    refine TL.eff0 rfl rfl (X.storeAll (vs := PK 6 p.s p.m p.b p.r p.c (.slice ra p.l.length rc')) rfl (by kernel_rfl) (by rfl) rfl rfl (allOne (by rfl)) pul (by rfl)) ?_
    rintro _ _ rfl
    refine TL.val rfl rfl rfl (Y.assign rfl rfl) ?_
    refine TL.nil ?_
    refine TQ.next ?_
    refine TC.ret ?_
    refine TQ.block_ret ?_
    refine TQ.then_ret ?_
    refine TQ.retE (resL rfl (Res.agg rfl ag46 (Cels.all (cs := PK 6 p.s p.m p.b p.r p.c (.slice ra p.l.length rc')) inn) (by first | rfl | assumption | omega) (Res.tmp rfl Res.nil))) (⟨ra, rc', rfl, rfl⟩) ?_
    exact ett
end tw
end Go.Proofs.Ythamkpjiecigjaa
