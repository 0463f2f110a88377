/- assoc: copies, data packets, Start, Abort, walked. -/
import Derived.Test.YtomplpdeeomehaaAsB
import Derived.Test.YtomplpdeeomehaaHAuto
namespace Go.Proofs.Ytomplpdeeomehaa
set_option linter.unusedVariables false
set_option linter.unusedSimpArgs false
open Go.RowKit
namespace ac
open wr (be16 be32)
namespace FxAsC
set_option maxRecDepth 100000
theorem ag51 : Program.aggN Try.prog 51 = some 3 := by kernel_rfl
theorem fo51_0 : Program.fieldOff Try.prog 51 0 = some 0 := by kernel_rfl
theorem fo51_1 : Program.fieldOff Try.prog 51 1 = some 1 := by kernel_rfl
theorem fo51_2 : Program.fieldOff Try.prog 51 2 = some 2 := by kernel_rfl
theorem fo66_0 : Program.fieldOff Try.prog 66 0 = some 0 := by kernel_rfl
theorem fo68_0 : Program.fieldOff Try.prog 68 0 = some 0 := by kernel_rfl
theorem fo68_1 : Program.fieldOff Try.prog 68 1 = some 1 := by kernel_rfl
theorem fo68_11 : Program.fieldOff Try.prog 68 11 = some 11 := by kernel_rfl
theorem fo68_12 : Program.fieldOff Try.prog 68 12 = some 12 := by kernel_rfl
theorem fo68_13 : Program.fieldOff Try.prog 68 13 = some 16 := by kernel_rfl
theorem fo68_3 : Program.fieldOff Try.prog 68 3 = some 3 := by kernel_rfl
theorem fo68_4 : Program.fieldOff Try.prog 68 4 = some 4 := by kernel_rfl
theorem fo68_5 : Program.fieldOff Try.prog 68 5 = some 5 := by kernel_rfl
theorem fo68_8 : Program.fieldOff Try.prog 68 8 = some 8 := by kernel_rfl
theorem fo68_9 : Program.fieldOff Try.prog 68 9 = some 9 := by kernel_rfl
theorem fo82_0 : Program.fieldOff Try.prog 82 0 = some 0 := by kernel_rfl
theorem sc2 : Program.isSc Try.prog 2 = true := by kernel_rfl
theorem sc22 : Program.isSc Try.prog 22 = true := by kernel_rfl
theorem sc23 : Program.isSc Try.prog 23 = true := by kernel_rfl
theorem sc3 : Program.isSc Try.prog 3 = true := by kernel_rfl
theorem sc4 : Program.isSc Try.prog 4 = true := by kernel_rfl
theorem sc40 : Program.isSc Try.prog 40 = true := by kernel_rfl
theorem sc64 : Program.isSc Try.prog 64 = true := by kernel_rfl
theorem sc85 : Program.isSc Try.prog 85 = true := by kernel_rfl
theorem sl64 : Program.slI Try.prog 64 = some 4 := by kernel_rfl
theorem sz85 : (Try.prog.info? 85).map (·.size) = some 1 := by kernel_rfl
theorem zc51 : Program.zeroC Try.prog 51 = some #[.int .u16 0, .int .u32 0, .slice none 0 0] := by kernel_rfl
theorem zc85 : Program.zeroC Try.prog 85 = some #[.slice none 0 0] := by kernel_rfl
end FxAsC
open FxAsC
abbrev PM := UInt16 × UInt32 × List UInt8
def pm (m : Msg) : PM := (m.1, m.2.1, m.2.2.l)
def msC (st : UInt16) (kd : UInt32) (s : Value) : Array Value := #[v16 st, v32 kd, s]
--REG (rostrum/assoc.Message).copy : _ _ ⟨a{d}, c{d}, rfl, rfl⟩ => (ac.copy_fn _ _ _ _ _ _ (by first | assumption | rfl) (by omega) _)
theorem copy_fn (st : UInt16) (kd : UInt32) (a : Option Addr) (n cap : Nat) (l : List UInt8) (hn : l.length = n) (hl : n ≤ 140737488351232) (L : List SA) :
    Fn Try.prog 41 [.agg (msC st kd (.slice a n cap))] (SA.rds 1 (.slice a n cap) n (l.map v8) :: L)
      (fun v L' => ∃ a' c', v = .agg (msC st kd (.slice a' n c')) ∧ L' = SA.owns 5 1 (.slice a' n c') n (l.map v8) :: SA.rds 1 (.slice a n cap) n (l.map v8) :: L) := by
  refine Fn.of (N := 8) Try.func41 rfl rfl ?_
  intro Xh
  refine TC.seq ?_
  refine TC.region ?_
  refine TL.eff rfl rfl rfl (X.boxA rfl rfl) ?_
  rintro _ _ ⟨b1, rfl, rfl⟩
  refine TL.eff rfl rfl rfl (X.alloc rfl zc51) ?_
  rintro _ _ ⟨b2, rfl, rfl⟩
  refine TL.nil ?_
  refine TQ.next ?_
  refine TC.seq ?_
  refine TC.region ?_
  refine TL.val rfl rfl rfl (by first | exact Y.fieldAddrJ rfl fo51_2 rfl nqq | exact Y.fieldAddr rfl fo51_2 rfl nqq) ?_
  refine TL.val rfl rfl rfl (Y.load rfl sc23 rfl celD) ?_
  refine TL.as (.slice a n cap) (by rfl) ?_
  refine TL.eff rfl rfl rfl (X.call rfl Try.func25 (by kernel_rfl) rfl rfl (Fn.preE (by repeat first | (with_reducible apply Ent.refl) | (apply Ent.cons; case h => first | (with_reducible (repeat first | apply Pull.here | apply Pull.there); done) | (repeat first | apply Pull.here | apply Pull.there))) (rd.Clone_fn _ _ _ _ (by first | assumption | rfl) (by omega) _))) ?_
  rintro _ _ ⟨a5, c5, rfl, rfl⟩
  refine TL.val rfl rfl rfl (by first | exact Y.fieldAddrJ rfl fo51_2 rfl nqq | exact Y.fieldAddr rfl fo51_2 rfl nqq) ?_
  refine TL.eff0 rfl rfl (X.store (cs' := msC st kd (.slice a5 n c5)) rfl (by kernel_rfl) rfl rfl rfl pul (by show 2 < 3; decide) rfl) ?_
  rintro _ _ rfl
  refine TL.nil ?_
  refine TQ.next ?_
  refine TC.seq ?_
  refine TC.region ?_
  refine TL.val rfl rfl rfl (Y.loadAgg rfl ag51 rfl (Cels.all (cs := msC st kd (.slice a5 n c5)) inn) (by first | rfl | ((try simp only [List.length_map, List.length_set, List.length_replicate]); omega))) ?_
  refine TL.as (.agg (msC st kd (.slice a5 n c5))) (by rfl) ?_
  refine TL.eff0 rfl rfl (X.storeAll rfl (by kernel_rfl) (by rfl) rfl rfl (allOne (by rfl)) pul (by rfl)) ?_
  rintro _ _ rfl
  refine TL.nil ?_
  refine TQ.next ?_
  refine TC.ret ?_
  refine TQ.retE (resC rfl ag51 rfl (Cels.all (cs := msC st kd (.slice a5 n c5)) inn) rfl) (⟨_, _, rfl, rfl⟩) ?_
  exact ett
/-- a data packet -/
def dataB (other tsn : UInt32) (m : PM) : List UInt8 := pkt other 5 ++ be32 tsn ++ be16 m.1 ++ be32 m.2.1 ++ m.2.2
theorem dataB_len (other tsn : UInt32) (m : PM) : (dataB other tsn m).length = 18 + m.2.2.length := by simp [dataB, pkt, be16, be32]; omega
theorem Ent.itemD {S : AS Msg} {L L1 : List SA} {st : UInt16} {kd : UInt32} {bs : Bs} {co : Bool} (h : Pull (aD S) L L1) (hx : (((st, kd, bs), co) : Itm) ∈ S.queue) : Ent L (SA.rds 1 (.slice bs.a bs.l.length bs.cap) bs.l.length (bs.l.map v8) :: aD S :: L1) := by
  refine h.ent.trans ((Ent.rdss_sub (hs := Dat.g bs) fun q hq => List.mem_flatMap.2 ⟨_, hx, ?_⟩).trans ((Ent.bytesOf (s := bs)).trans (Ent.under _ Ent.drop)))
  show q ∈ ([] ++ ([] ++ Dat.g bs)) ++ []
  simpa using hq
set_option maxHeartbeats 1000000 in
theorem data_fn (b : Nat) (p : AP) (S : AS Msg) (i : Nat) (st : UInt16) (kd : UInt32) (bs : Bs) (co : Bool) (hx : S.queue[i]? = some ((st, kd, bs), co)) (hl : bs.l.length ≤ 1099511627700) (L : List SA) :
    Fn Try.prog 43 [pt b 0, vN i] (aB b p S :: aQ p S :: aD S :: L)
      (fun v L' => ∃ a c, v = .slice a (dataB S.other (S.base + UInt32.ofNat i) (st, kd, bs.l)).length c ∧ L' = SA.owns 5 1 (.slice a (dataB S.other (S.base + UInt32.ofNat i) (st, kd, bs.l)).length c) (dataB S.other (S.base + UInt32.ofNat i) (st, kd, bs.l)).length ((dataB S.other (S.base + UInt32.ofNat i) (st, kd, bs.l)).map v8) :: aB b p S :: aQ p S :: aD S :: L) := by
  have hi := (List.getElem?_eq_some_iff.1 hx).1
  refine Fn.of (N := 38) Try.func43 rfl rfl ?_
  intro Xh
  refine TC.know (owns_some (a := p.qa) (n := S.queue.length) inn (by omega)) ?_
  rintro ⟨g, off, hqa⟩
  refine TC.to (Ent.itemD pul (List.mem_of_getElem? hx)) ?_
  refine TC.seq ?_
  refine TC.region ?_
  refine TL.val rfl rfl rfl (Y.assign rfl rfl) ?_
  refine TL.nil ?_
  refine TQ.next ?_
  refine TC.seq ?_
  refine TC.region ?_
  refine TL.val rfl rfl rfl (Y.move rfl rfl) ?_
  refine TL.val rfl rfl rfl (Y.nilCheck rfl rfl) ?_
  refine TL.val rfl rfl rfl (by first | exact Y.fieldAddrJ rfl fo68_9 rfl nqq | exact Y.fieldAddr rfl fo68_9 rfl nqq) ?_
  refine TL.val rfl rfl rfl (Y.load rfl sc64 rfl celD) ?_
  refine TL.as (.slice (some ⟨g, off, none⟩) S.queue.length p.qc) (by (rw [← hqa]; rfl)) ?_
  refine TL.val rfl rfl rfl (Y.move rfl rfl) ?_
  refine TL.val rfl rfl rfl (by first | exact Y.indexSlB rfl sl64 rfl rfl (by omega) nqq | exact Y.indexSl rfl sl64 rfl rfl (by omega) nqq) ?_
  refine TL.val rfl rfl rfl (by first | exact Y.fieldAddrJ rfl fo82_0 rfl nqq | exact Y.fieldAddr rfl fo82_0 rfl nqq) ?_
  refine TL.val rfl rfl rfl (Y.loadAgg rfl ag51 rfl (Cels.pre (Cels.at (A := SA.owns 82 4 (.slice (some ⟨g, off, none⟩) S.queue.length p.qc) S.queue.length (Dat.cs S.queue)) Reads.owns (by rw [← hqa]; exact inn) hx) (l' := [v16 st, v32 kd, .slice bs.a bs.l.length bs.cap]) ⟨_, rfl⟩) (by first | rfl | ((try simp only [List.length_map, List.length_set, List.length_replicate]); omega))) ?_
  refine TL.as (.agg (msC st kd (.slice bs.a bs.l.length bs.cap))) (by rfl) ?_
  refine TL.eff rfl rfl rfl (X.alloc rfl zc51) ?_
  rintro _ _ ⟨b5, rfl, rfl⟩
  refine TL.eff0 rfl rfl (X.storeAll rfl (by kernel_rfl) (by rfl) rfl rfl (allOne (by rfl)) pul (by rfl)) ?_
  rintro _ _ rfl
  refine TL.nil ?_
  refine TQ.next ?_
  refine TC.seq ?_
  refine TC.region ?_
  refine TL.val rfl rfl rfl (Y.move rfl rfl) ?_
  refine TL.val rfl rfl rfl (Y.nilCheck rfl rfl) ?_
  refine TL.val rfl rfl rfl (by first | exact Y.fieldAddrJ rfl fo68_5 rfl nqq | exact Y.fieldAddr rfl fo68_5 rfl nqq) ?_
  refine TL.val rfl rfl rfl (Y.load rfl sc22 rfl cel32) ?_
  refine TL.as (v32 S.other) (by rfl) ?_
  refine TL.eff rfl rfl rfl (X.call rfl Try.func44 (by kernel_rfl) rfl rfl (Fn.preE (by repeat first | (with_reducible apply Ent.refl) | (apply Ent.cons; case h => first | (with_reducible (repeat first | apply Pull.here | apply Pull.there); done) | (repeat first | apply Pull.here | apply Pull.there))) (ac.packet_fn _ 5 _))) ?_
  rintro _ _ ⟨a19, c19, rfl, rfl⟩
  refine TL.eff rfl rfl rfl (X.alloc rfl zc85) ?_
  rintro _ _ ⟨b6, rfl, rfl⟩
  refine TL.eff0 rfl rfl (by first | exact X.store rfl sz85 rfl rfl rfl pul lnn (by first | exact setM | rfl) | exact X.storeOwn rfl sz85 rfl (Nat.zero_add _).symm rfl rfl pul lnn (by first | exact setML | rfl) | exact X.storeOwn rfl sz85 rfl rfl rfl rfl pul lnn (by first | exact setML | rfl)) ?_
  rintro _ _ rfl
  refine TL.nil ?_
  refine TQ.to (wr.put (b := b6) pul (by rfl) pul (l := pkt S.other 5) rfl rfl Ent.refl) ?_
  refine TQ.next ?_
  refine TC.seq ?_
  refine TC.region ?_
  refine TL.val rfl rfl rfl (Y.move rfl rfl) ?_
  refine TL.val rfl rfl rfl (Y.nilCheck rfl rfl) ?_
  refine TL.val rfl rfl rfl (by first | exact Y.fieldAddrJ rfl fo68_8 rfl nqq | exact Y.fieldAddr rfl fo68_8 rfl nqq) ?_
  refine TL.val rfl rfl rfl (Y.load rfl sc22 rfl cel32) ?_
  refine TL.as (v32 S.base) (by rfl) ?_
  refine TL.val rfl rfl rfl (Y.move rfl rfl) ?_
  refine TL.val rfl rfl rfl (Y.conv rfl Try.underlying3 Try.underlying22 rfl cv_N_32) ?_
  refine TL.val rfl rfl rfl (Y.bin rfl rfl rfl (br_add32)) ?_
  refine TL.eff rfl rfl rfl (X.call rfl Try.func45 (by kernel_rfl) rfl rfl (Fn.preE (by repeat first | (with_reducible apply Ent.refl) | (apply Ent.cons; case h => first | (with_reducible (repeat first | apply Pull.here | apply Pull.there); done) | (repeat first | apply Pull.here | apply Pull.there))) (wr.U32_fn b6 (S.base + UInt32.ofNat i) (pkt S.other 5) (by show 8 ≤ _; decide) _))) ?_
  rintro _ _ ⟨rfl, rfl⟩
  refine TL.nil ?_
  refine TQ.next ?_
  refine TC.seq ?_
  refine TC.region ?_
  refine TL.val rfl rfl rfl (by first | exact Y.fieldAddrJ rfl fo51_0 rfl nqq | exact Y.fieldAddr rfl fo51_0 rfl nqq) ?_
  refine TL.val rfl rfl rfl (Y.load rfl sc40 rfl cel16) ?_
  refine TL.as (v16 st) (by rfl) ?_
  refine TL.eff rfl rfl rfl (X.call rfl Try.func53 (by kernel_rfl) rfl rfl (Fn.preE (by repeat first | (with_reducible apply Ent.refl) | (apply Ent.cons; case h => first | (with_reducible (repeat first | apply Pull.here | apply Pull.there); done) | (repeat first | apply Pull.here | apply Pull.there))) (wr.U16_fn b6 st _ (by show 12 ≤ _; decide) _))) ?_
  rintro _ _ ⟨rfl, rfl⟩
  refine TL.nil ?_
  refine TQ.next ?_
  refine TC.seq ?_
  refine TC.region ?_
  refine TL.val rfl rfl rfl (by first | exact Y.fieldAddrJ rfl fo51_1 rfl nqq | exact Y.fieldAddr rfl fo51_1 rfl nqq) ?_
  refine TL.val rfl rfl rfl (Y.load rfl sc22 rfl cel32) ?_
  refine TL.as (v32 kd) (by rfl) ?_
  refine TL.eff rfl rfl rfl (X.call rfl Try.func45 (by kernel_rfl) rfl rfl (Fn.preE (by repeat first | (with_reducible apply Ent.refl) | (apply Ent.cons; case h => first | (with_reducible (repeat first | apply Pull.here | apply Pull.there); done) | (repeat first | apply Pull.here | apply Pull.there))) (wr.U32_fn b6 kd _ (by show 14 ≤ _; decide) _))) ?_
  rintro _ _ ⟨rfl, rfl⟩
  refine TL.nil ?_
  refine TQ.next ?_
  refine TC.seq ?_
  refine TC.region ?_
  refine TL.val rfl rfl rfl (by first | exact Y.fieldAddrJ rfl fo51_2 rfl nqq | exact Y.fieldAddr rfl fo51_2 rfl nqq) ?_
  refine TL.val rfl rfl rfl (Y.load rfl sc23 rfl celD) ?_
  refine TL.as (.slice bs.a bs.l.length bs.cap) (by rfl) ?_
  refine TL.eff rfl rfl rfl (X.call rfl Try.func48 (by kernel_rfl) rfl rfl (Fn.preE (by repeat first | (with_reducible apply Ent.refl) | (apply Ent.cons; case h => first | (with_reducible (repeat first | apply Pull.here | apply Pull.there); done) | (repeat first | apply Pull.here | apply Pull.there))) (wr.BytesR_fn b6 _ _ _ _ bs.l rfl (by show 18 + _ ≤ _; omega) _))) ?_
  rintro _ _ ⟨rfl, rfl⟩
  rw [show pkt S.other 5 ++ be32 (S.base + UInt32.ofNat i) ++ be16 st ++ be32 kd ++ bs.l = dataB S.other (S.base + UInt32.ofNat i) (st, kd, bs.l) from rfl]
  refine TL.nil ?_
  refine TQ.next ?_
  refine TC.seq ?_
  refine TC.open pul ?_
  rintro ⟨wa2, wc2⟩
  refine TC.split pul ?_
  refine TC.region ?_
  refine TL.val rfl rfl rfl (Y.load rfl sc85 rfl celD) ?_
  refine TL.val rfl rfl rfl (Y.assign rfl rfl) ?_
  refine TL.nil ?_
  refine TQ.next ?_
  refine TC.ret ?_
  refine TQ.retE (res1 rfl rfl) (⟨_, _, rfl, rfl⟩) ?_
  exact ett
def initB {μ : Type} (S : AS μ) : List UInt8 := pkt 0 1 ++ be32 S.tag ++ be32 S.first
def AS.started {μ : Type} (S : AS μ) (now : Int) : AS μ := ({ S with clock := max S.clock now, state := 1, shake := initB S } : AS μ).starts
theorem Start_no (b : Nat) (p : AP) (S : AS Msg) (now : Int) (h : S.state ≠ 0) (L : List SA) : Fn Try.prog 23 [pt b 0, vI now] (aB b p S :: L) (fun v L' => v = .tuple #[.slice none 0 0, vN 9] ∧ L' = aB b p S :: L) := by
  refine Fn.of (N := 45) Try.func23 rfl rfl ?_
  intro Xh
  refine TC.seq ?_
  refine TC.region ?_
  refine TL.val rfl rfl rfl (Y.assign rfl rfl) ?_
  refine TL.val rfl rfl rfl (Y.assign rfl rfl) ?_
  refine TL.nil ?_
  refine TQ.next ?_
  refine TC.seq ?_
  refine TC.seq ?_
  refine TC.region ?_
  refine TL.val rfl rfl rfl (Y.move rfl rfl) ?_
  refine TL.val rfl rfl rfl (by first | exact Y.eqNilP rfl Try.underlying26 rfl rfl | exact Y.eqNil0 rfl Try.underlying26 rfl rfl) ?_
  refine TL.nil ?_
  refine TQ.next ?_
  refine TC.cond_f rfl ?_
  refine TC.skip ?_
  refine TQ.next ?_
  refine TC.seq ?_
  refine TC.seq ?_
  refine TC.region ?_
  refine TL.val rfl rfl rfl (Y.move rfl rfl) ?_
  refine TL.val rfl rfl rfl (Y.nilCheck rfl rfl) ?_
  refine TL.val rfl rfl rfl (by first | exact Y.fieldAddrJ rfl fo68_3 rfl nqq | exact Y.fieldAddr rfl fo68_3 rfl nqq) ?_
  refine TL.val rfl rfl rfl (Y.load rfl sc3 rfl celN) ?_
  refine TL.as (vN S.state) (by rfl) ?_
  refine TL.val rfl rfl rfl (Y.bin rfl rfl rfl (br_neN (n := 0))) ?_
  refine TL.is true (by simpa using h) ?_
  refine TL.nil ?_
  refine TQ.next ?_
  refine TC.cond_t rfl ?_
  refine TC.seq ?_
  refine TC.region ?_
  refine TL.val rfl rfl rfl (Y.assign rfl rfl) ?_
  refine TL.val rfl rfl rfl (Y.assign rfl rfl) ?_
  refine TL.nil ?_
  refine TQ.next ?_
  refine TC.ret ?_
  refine TQ.then_ret ?_
  refine TQ.retE (res2 rfl rfl rfl) (⟨rfl, rfl⟩) ?_
  exact ett
set_option maxHeartbeats 1000000 in
theorem Start_yes (b : Nat) (p : AP) (S : AS Msg) (now : Int) (h : S.state = 0) (L : List SA) : Fn Try.prog 23 [pt b 0, vI now] (aB b p S :: L)
    (fun v L' => ∃ a c ha hc, v = .tuple #[.slice a 16 c, vN 0] ∧ L' = SA.owns 5 1 (.slice a 16 c) 16 ((initB S).map v8) :: aB b { p with ha := ha, hc := hc } (S.started now) :: aH { p with ha := ha, hc := hc } (S.started now) :: L) := by
  refine Fn.of (N := 45) Try.func23 rfl rfl ?_
  intro Xh
  refine TC.seq ?_
  refine TC.region ?_
  refine TL.val rfl rfl rfl (Y.assign rfl rfl) ?_
  refine TL.val rfl rfl rfl (Y.assign rfl rfl) ?_
  refine TL.nil ?_
  refine TQ.next ?_
  refine TC.seq ?_
  refine TC.seq ?_
  refine TC.region ?_
  refine TL.val rfl rfl rfl (Y.move rfl rfl) ?_
  refine TL.val rfl rfl rfl (by first | exact Y.eqNilP rfl Try.underlying26 rfl rfl | exact Y.eqNil0 rfl Try.underlying26 rfl rfl) ?_
  refine TL.nil ?_
  refine TQ.next ?_
  refine TC.cond_f rfl ?_
  refine TC.skip ?_
  refine TQ.next ?_
  refine TC.seq ?_
  refine TC.seq ?_
  refine TC.region ?_
  refine TL.val rfl rfl rfl (Y.move rfl rfl) ?_
  refine TL.val rfl rfl rfl (Y.nilCheck rfl rfl) ?_
  refine TL.val rfl rfl rfl (by first | exact Y.fieldAddrJ rfl fo68_3 rfl nqq | exact Y.fieldAddr rfl fo68_3 rfl nqq) ?_
  refine TL.val rfl rfl rfl (Y.load rfl sc3 rfl celN) ?_
  refine TL.as (vN S.state) (by rfl) ?_
  refine TL.val rfl rfl rfl (Y.bin rfl rfl rfl (br_neN (n := 0))) ?_
  refine TL.is false (by simpa using h) ?_
  refine TL.nil ?_
  refine TQ.next ?_
  refine TC.cond_f rfl ?_
  refine TC.skip ?_
  refine TQ.next ?_
  refine TC.seq ?_
  refine TC.region ?_
  refine TL.val rfl rfl rfl (Y.move rfl rfl) ?_
  refine TL.val rfl rfl rfl (Y.move rfl rfl) ?_
  refine TL.val rfl rfl rfl (Y.nilCheck rfl rfl) ?_
  refine TL.val rfl rfl rfl (by first | exact Y.fieldAddrJ rfl fo68_11 rfl nqq | exact Y.fieldAddr rfl fo68_11 rfl nqq) ?_
  refine TL.val rfl rfl rfl (Y.load rfl sc2 rfl celN) ?_
  refine TL.as (vI S.clock) (by rfl) ?_
  refine TL.val rfl rfl rfl (Y.move rfl rfl) ?_
  refine TL.val rfl rfl rfl (Y.maxI rfl rfl rfl) ?_
  refine TL.val rfl rfl rfl (Y.nilCheck rfl rfl) ?_
  refine TL.val rfl rfl rfl (by first | exact Y.fieldAddrJ rfl fo68_11 rfl nqq | exact Y.fieldAddr rfl fo68_11 rfl nqq) ?_
  refine TL.eff0 rfl rfl (X.store (cs' := asC p { S with clock := max S.clock now }) rfl (by kernel_rfl) rfl rfl rfl pul (by show 11 < 17; decide) rfl) ?_
  rintro _ _ rfl
  refine TL.nil ?_
  refine TQ.next ?_
  refine TC.seq ?_
  refine TC.region ?_
  refine TL.eff rfl rfl rfl (X.call rfl Try.func44 (by kernel_rfl) rfl rfl (Fn.preE (by repeat first | (with_reducible apply Ent.refl) | (apply Ent.cons; case h => first | (with_reducible (repeat first | apply Pull.here | apply Pull.there); done) | (repeat first | apply Pull.here | apply Pull.there))) (packet_fn 0 1 _))) ?_
  rintro _ _ ⟨a23, c23, rfl, rfl⟩
  refine TL.eff rfl rfl rfl (X.alloc rfl zc85) ?_
  rintro _ _ ⟨b6, rfl, rfl⟩
  refine TL.eff0 rfl rfl (by first | exact X.store rfl sz85 rfl rfl rfl pul lnn (by first | exact setM | rfl) | exact X.storeOwn rfl sz85 rfl (Nat.zero_add _).symm rfl rfl pul lnn (by first | exact setML | rfl) | exact X.storeOwn rfl sz85 rfl rfl rfl rfl pul lnn (by first | exact setML | rfl)) ?_
  rintro _ _ rfl
  refine TL.nil ?_
  refine TQ.to (wr.put (b := b6) pul (by rfl) pul (l := pkt 0 1) rfl rfl Ent.refl) ?_
  refine TQ.next ?_
  refine TC.seq ?_
  refine TC.region ?_
  refine TL.val rfl rfl rfl (Y.move rfl rfl) ?_
  refine TL.val rfl rfl rfl (Y.nilCheck rfl rfl) ?_
  refine TL.val rfl rfl rfl (by first | exact Y.fieldAddrJ rfl fo68_0 rfl nqq | exact Y.fieldAddr rfl fo68_0 rfl nqq) ?_
  refine TL.val rfl rfl rfl (Y.load rfl sc22 rfl cel32) ?_
  refine TL.as (v32 S.tag) (by rfl) ?_
  refine TL.eff rfl rfl rfl (X.call rfl Try.func45 (by kernel_rfl) rfl rfl (Fn.preE (by repeat first | (with_reducible apply Ent.refl) | (apply Ent.cons; case h => first | (with_reducible (repeat first | apply Pull.here | apply Pull.there); done) | (repeat first | apply Pull.here | apply Pull.there))) (wr.U32_fn b6 S.tag (pkt 0 1) (by decide) _))) ?_
  rintro _ _ ⟨rfl, rfl⟩
  refine TL.nil ?_
  refine TQ.next ?_
  refine TC.seq ?_
  refine TC.region ?_
  refine TL.val rfl rfl rfl (Y.move rfl rfl) ?_
  refine TL.val rfl rfl rfl (Y.nilCheck rfl rfl) ?_
  refine TL.val rfl rfl rfl (by first | exact Y.fieldAddrJ rfl fo68_1 rfl nqq | exact Y.fieldAddr rfl fo68_1 rfl nqq) ?_
  refine TL.val rfl rfl rfl (Y.load rfl sc22 rfl cel32) ?_
  refine TL.as (v32 S.first) (by rfl) ?_
  refine TL.eff rfl rfl rfl (X.call rfl Try.func45 (by kernel_rfl) rfl rfl (Fn.preE (by repeat first | (with_reducible apply Ent.refl) | (apply Ent.cons; case h => first | (with_reducible (repeat first | apply Pull.here | apply Pull.there); done) | (repeat first | apply Pull.here | apply Pull.there))) (wr.U32_fn b6 S.first _ (by show 12 ≤ _; decide) _))) ?_
  rintro _ _ ⟨rfl, rfl⟩
  rw [show pkt 0 1 ++ be32 S.tag ++ be32 S.first = initB S from rfl]
  refine TL.nil ?_
  refine TQ.next ?_
  refine TC.seq ?_
  refine TC.open pul ?_
  rintro ⟨wa, wc⟩
  refine TC.split pul ?_
  refine TC.to ((Pull.ent (A := SA.owns 5 1 (.slice wa (initB S).length wc) (initB S).length ((initB S).map v8)) pul).trans Ent.freeze) ?_
  refine TC.region ?_
  refine TL.val rfl rfl rfl (Y.move rfl rfl) ?_
  refine TL.val rfl rfl rfl (Y.move rfl rfl) ?_
  refine TL.val rfl rfl rfl (Y.load rfl sc85 rfl celD) ?_
  refine TL.val rfl rfl rfl (Y.nilCheck rfl rfl) ?_
  refine TL.val rfl rfl rfl (by first | exact Y.fieldAddrJ rfl fo68_3 rfl nqq | exact Y.fieldAddr rfl fo68_3 rfl nqq) ?_
  refine TL.eff0 rfl rfl (X.store (cs' := asC p { S with clock := max S.clock now, state := 1 }) rfl (by kernel_rfl) rfl rfl rfl pul (by show 3 < 17; decide) rfl) ?_
  rintro _ _ rfl
  refine TL.val rfl rfl rfl (Y.nilCheck rfl rfl) ?_
  refine TL.val rfl rfl rfl (by first | exact Y.fieldAddrJ rfl fo68_13 rfl nqq | exact Y.fieldAddr rfl fo68_13 rfl nqq) ?_
  refine TL.eff0 rfl rfl (X.store (cs' := asC { p with ha := wa, hc := wc } { S with clock := max S.clock now, state := 1, shake := initB S }) rfl (by kernel_rfl) rfl rfl rfl pul (by show 16 < 17; decide) rfl) ?_
  rintro _ _ rfl
  refine TL.nil ?_
  refine TQ.next ?_
  refine TC.seq ?_
  refine TC.region ?_
  refine TL.val rfl rfl rfl (Y.move rfl rfl) ?_
  refine TL.eff rfl rfl rfl (X.call rfl Try.func46 (by kernel_rfl) rfl rfl (Fn.preE (by repeat first | (with_reducible apply Ent.refl) | (apply Ent.cons; case h => first | (with_reducible (repeat first | apply Pull.here | apply Pull.there); done) | (repeat first | apply Pull.here | apply Pull.there))) (start_fn b { p with ha := wa, hc := wc } { S with clock := max S.clock now, state := 1, shake := initB S } _))) ?_
  rintro _ _ ⟨rfl, rfl⟩
  refine TL.nil ?_
  refine TQ.next ?_
  refine TC.seq ?_
  refine TC.region ?_
  refine TL.val rfl rfl rfl (Y.load rfl sc85 rfl celD) ?_
  refine TL.eff rfl rfl rfl (X.call rfl Try.func25 (by kernel_rfl) rfl rfl (Fn.preE (by repeat first | (with_reducible apply Ent.refl) | (apply Ent.cons; case h => first | (with_reducible (repeat first | apply Pull.here | apply Pull.there); done) | (repeat first | apply Pull.here | apply Pull.there))) (rd.Clone_fn _ _ _ (initB S) rfl (by show 16 ≤ _; decide) _))) ?_
  rintro _ _ ⟨a44, c44, rfl, rfl⟩
  refine TL.val rfl rfl rfl (Y.assign rfl rfl) ?_
  refine TL.val rfl rfl rfl (Y.assign rfl rfl) ?_
  refine TL.nil ?_
  refine TQ.next ?_
  refine TC.ret ?_
  refine TQ.retE (res2 rfl rfl rfl) (⟨_, _, wa, wc, rfl, rfl⟩) ?_
  exact ett
def AS.aborted {μ : Type} (S : AS μ) : AS μ := { S with state := 4, tset := false }
theorem Abort_no (b : Nat) (p : AP) (S : AS Msg) (h : S.known = false) (L : List SA) : Fn Try.prog 24 [pt b 0] (aB b p S :: L) (fun v L' => v = .slice none 0 0 ∧ L' = aB b p S.aborted :: L) := by
  refine Fn.of (N := 22) Try.func24 rfl rfl ?_
  intro Xh
  refine TC.seq ?_
  refine TC.region ?_
  refine TL.val rfl rfl rfl (Y.assign rfl rfl) ?_
  refine TL.nil ?_
  refine TQ.next ?_
  refine TC.seq ?_
  refine TC.seq ?_
  refine TC.region ?_
  refine TL.val rfl rfl rfl (Y.move rfl rfl) ?_
  refine TL.val rfl rfl rfl (by first | exact Y.eqNilP rfl Try.underlying26 rfl rfl | exact Y.eqNil0 rfl Try.underlying26 rfl rfl) ?_
  refine TL.nil ?_
  refine TQ.next ?_
  refine TC.cond_f rfl ?_
  refine TC.skip ?_
  refine TQ.next ?_
  refine TC.seq ?_
  refine TC.region ?_
  refine TL.val rfl rfl rfl (Y.move rfl rfl) ?_
  refine TL.val rfl rfl rfl (Y.move rfl rfl) ?_
  refine TL.val rfl rfl rfl (Y.nilCheck rfl rfl) ?_
  refine TL.val rfl rfl rfl (by first | exact Y.fieldAddrJ rfl fo68_3 rfl nqq | exact Y.fieldAddr rfl fo68_3 rfl nqq) ?_
  refine TL.eff0 rfl rfl (X.store (cs' := asC p { S with state := 4 }) rfl (by kernel_rfl) rfl rfl rfl pul (by show 3 < 17; decide) rfl) ?_
  rintro _ _ rfl
  refine TL.val rfl rfl rfl (Y.nilCheck rfl rfl) ?_
  refine TL.val rfl rfl rfl (by first | exact Y.fieldAddrJ rfl fo68_12 rfl nqq | exact Y.fieldAddr rfl fo68_12 rfl nqq) ?_
  refine TL.val rfl rfl rfl (by first | exact Y.fieldAddrJ rfl fo66_0 rfl nqq | exact Y.fieldAddr rfl fo66_0 rfl nqq) ?_
  refine TL.eff0 rfl rfl (X.store (cs' := asC p S.aborted) rfl (by kernel_rfl) rfl rfl rfl pul (by show 12 < 17; decide) rfl) ?_
  rintro _ _ rfl
  refine TL.nil ?_
  refine TQ.next ?_
  refine TC.seq ?_
  refine TC.seq ?_
  refine TC.region ?_
  refine TL.val rfl rfl rfl (Y.move rfl rfl) ?_
  refine TL.val rfl rfl rfl (Y.nilCheck rfl rfl) ?_
  refine TL.val rfl rfl rfl (by first | exact Y.fieldAddrJ rfl fo68_4 rfl nqq | exact Y.fieldAddr rfl fo68_4 rfl nqq) ?_
  refine TL.val rfl rfl rfl (Y.load rfl sc4 rfl celD) ?_
  refine TL.val rfl rfl rfl (Y.not rfl rfl) ?_
  refine TL.is true (by (show (!S.known) = true; rw [h]; rfl)) ?_
  refine TL.nil ?_
  refine TQ.next ?_
  refine TC.cond_t rfl ?_
  refine TC.seq ?_
  refine TC.region ?_
  refine TL.val rfl rfl rfl (Y.assign rfl rfl) ?_
  refine TL.nil ?_
  refine TQ.next ?_
  refine TC.ret ?_
  refine TQ.then_ret ?_
  refine TQ.retE (res1 rfl rfl) (⟨rfl, rfl⟩) ?_
  exact ett
end ac
end Go.Proofs.Ytomplpdeeomehaa
