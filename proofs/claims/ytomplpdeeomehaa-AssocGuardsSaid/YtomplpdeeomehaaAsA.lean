/- assoc: a side's state; the small functions, walked. -/
import Derived.Test.YtomplpdeeomehaaHMap
import Derived.Test.YtomplpdeeomehaaHCopy
import Derived.Test.YtomplpdeeomehaaWireW
import Derived.Test.YtomplpdeeomehaaWireR
import Derived.Test.YtomplpdeeomehaaShaMac
import Derived.Test.YtomplpdeeomehaaHAuto
namespace Go.Proofs.Ytomplpdeeomehaa
set_option linter.unusedVariables false
set_option linter.unusedSimpArgs false
open Go.RowKit
namespace ac
open wr (be16 be32)
namespace FxAsA
set_option maxRecDepth 100000
theorem fo68_11 : Program.fieldOff Try.prog 68 11 = some 11 := by kernel_rfl
theorem fo68_12 : Program.fieldOff Try.prog 68 12 = some 12 := by kernel_rfl
theorem fo68_3 : Program.fieldOff Try.prog 68 3 = some 3 := by kernel_rfl
theorem fo68_9 : Program.fieldOff Try.prog 68 9 = some 9 := by kernel_rfl
theorem pl66 : Program.places Try.prog 66 = some [(0, 1), (1, 1), (2, 1), (3, 1)] := by kernel_rfl
theorem sc2 : Program.isSc Try.prog 2 = true := by kernel_rfl
theorem sc3 : Program.isSc Try.prog 3 = true := by kernel_rfl
theorem sc64 : Program.isSc Try.prog 64 = true := by kernel_rfl
theorem sc85 : Program.isSc Try.prog 85 = true := by kernel_rfl
theorem zc66 : Program.zeroC Try.prog 66 = some #[.bool false, .int .i64 0, .int .i64 0, .int .i64 0] := by kernel_rfl
theorem zc85 : Program.zeroC Try.prog 85 = some #[.slice none 0 0] := by kernel_rfl
end FxAsA
open FxAsA
abbrev Msg := UInt16 × UInt32 × Bs
abbrev Itm := Msg × Bool
/-- a side -/
structure AS (μ : Type) where
  tag : UInt32
  first : UInt32
  secret : List UInt8
  state : Nat
  known : Bool
  other : UInt32
  top : UInt32
  kept : UInt32 → Option μ
  base : UInt32
  queue : List (μ × Bool)
  sent : Nat
  clock : Int
  tset : Bool
  moment : Int
  delay : Int
  fires : Nat
  shake : List UInt8
/-- where its parts lie -/
structure AP where
  sa : Option Addr
  sc : Nat
  mb : Nat
  qa : Option Addr
  qc : Nat
  ha : Option Addr
  hc : Nat
def asC (p : AP) (S : AS Msg) : Array Value := #[v32 S.tag, v32 S.first, .slice p.sa S.secret.length p.sc, vN S.state, vB S.known, v32 S.other, v32 S.top, .map (some p.mb), v32 S.base, .slice p.qa S.queue.length p.qc, vN S.sent, vI S.clock, vB S.tset, vI S.moment, vI S.delay, vN S.fires, .slice p.ha S.shake.length p.hc]
abbrev aB (b : Nat) (p : AP) (S : AS Msg) : SA := SA.blk b (asC p S) 68
abbrev aS (p : AP) (S : AS Msg) : SA := SA.rds 1 (.slice p.sa S.secret.length p.sc) S.secret.length (S.secret.map v8)
abbrev aM (p : AP) (S : AS Msg) : SA := SA.mapD p.mb S.kept
abbrev aQ (p : AP) (S : AS Msg) : SA := SA.owns 82 4 (.slice p.qa S.queue.length p.qc) S.queue.length (Dat.cs S.queue)
abbrev aD (S : AS Msg) : SA := SA.rdss (S.queue.flatMap Dat.g)
abbrev aH (p : AP) (S : AS Msg) : SA := SA.rds 1 (.slice p.ha S.shake.length p.hc) S.shake.length (S.shake.map v8)
theorem asC_size (p : AP) (S : AS Msg) : (asC p S).size = 17 := rfl
def AS.starts {μ : Type} (S : AS μ) : AS μ := { S with tset := true, moment := S.clock, delay := 1000, fires := 0 }
--REG (*rostrum/assoc.Assoc).start : _ _ ⟨rfl, rfl⟩ => (ac.start_fn _ _ _ _)
theorem start_fn (b : Nat) (p : AP) (S : AS Msg) (L : List SA) : Fn Try.prog 46 [pt b 0] (aB b p S :: L) (fun v L' => v = .tuple #[] ∧ L' = aB b p S.starts :: L) := by
  refine Fn.of (N := 10) Try.func46 rfl rfl ?_
  intro Xh
  refine TC.region ?_
  refine TL.val rfl rfl rfl (Y.move rfl rfl) ?_
  refine TL.val rfl rfl rfl (Y.move rfl rfl) ?_
  refine TL.val rfl rfl rfl (Y.nilCheck rfl rfl) ?_
  refine TL.val rfl rfl rfl (by first | exact Y.fieldAddrJ rfl fo68_11 rfl nqq | exact Y.fieldAddr rfl fo68_11 rfl nqq) ?_
  refine TL.val rfl rfl rfl (Y.load rfl sc2 rfl celN) ?_
  refine TL.as (vI S.clock) (by rfl) ?_
  refine TL.val rfl rfl rfl (Y.buildS (cells := #[vB true, vI S.clock, vI 1000, vN 0]) rfl rfl pl66 zc66 (by kernel_rfl)) ?_
  refine TL.val rfl rfl rfl (Y.nilCheck rfl rfl) ?_
  refine TL.val rfl rfl rfl (by first | exact Y.fieldAddrJ rfl fo68_12 rfl nqq | exact Y.fieldAddr rfl fo68_12 rfl nqq) ?_
  refine TL.eff0 rfl rfl (X.storeAgg (cs' := asC p S.starts) rfl (by kernel_rfl) rfl rfl rfl (allOne (by rfl)) pul (by show 12 + 4 ≤ 17; decide) rfl) ?_
  rintro _ _ rfl
  refine TL.nil ?_
  refine TQ.endE (res0 rfl) (⟨rfl, rfl⟩) ?_
  exact ett
--REG (*rostrum/assoc.Assoc).State : _ _ ⟨rfl, rfl⟩ => (ac.State_fn _ _ _ _)
theorem State_fn (b : Nat) (p : AP) (S : AS Msg) (L : List SA) : Fn Try.prog 14 [pt b 0] (aB b p S :: L) (fun v L' => v = vN S.state ∧ L' = aB b p S :: L) := by
  refine Fn.of (N := 9) Try.func14 rfl rfl ?_
  intro Xh
  refine TC.seq ?_
  refine TC.region ?_
  refine TL.val rfl rfl rfl (Y.assign rfl rfl) ?_
  refine TL.nil ?_
  refine TQ.next ?_
  refine TC.seq ?_
  refine TC.seq ?_
  refine TC.region ?_
  refine TL.val rfl rfl rfl (Y.move rfl rfl) ?_
  refine TL.val rfl rfl rfl (by first | exact Y.eqNilP rfl Try.underlying26 rfl rfl | exact Y.eqNil0 rfl Try.underlying26 rfl rfl) ?_
  refine TL.nil ?_
  refine TQ.next ?_
  refine TC.cond_f rfl ?_
  refine TC.skip ?_
  refine TQ.next ?_
  refine TC.seq ?_
  refine TC.region ?_
  refine TL.val rfl rfl rfl (Y.move rfl rfl) ?_
  refine TL.val rfl rfl rfl (Y.nilCheck rfl rfl) ?_
  refine TL.val rfl rfl rfl (by first | exact Y.fieldAddrJ rfl fo68_3 rfl nqq | exact Y.fieldAddr rfl fo68_3 rfl nqq) ?_
  refine TL.val rfl rfl rfl (Y.load rfl sc3 rfl celN) ?_
  refine TL.val rfl rfl rfl (Y.assign rfl rfl) ?_
  refine TL.nil ?_
  refine TQ.next ?_
  refine TC.ret ?_
  refine TQ.retE (res1 rfl rfl) (⟨rfl, rfl⟩) ?_
  exact ett
--REG (*rostrum/assoc.Assoc).Waiting : _ _ ⟨rfl, rfl⟩ => (ac.Waiting_fn _ _ _ _)
theorem Waiting_fn (b : Nat) (p : AP) (S : AS Msg) (L : List SA) : Fn Try.prog 22 [pt b 0] (aB b p S :: L) (fun v L' => v = vN S.queue.length ∧ L' = aB b p S :: L) := by
  refine Fn.of (N := 10) Try.func22 rfl rfl ?_
  intro Xh
  refine TC.seq ?_
  refine TC.region ?_
  refine TL.val rfl rfl rfl (Y.assign rfl rfl) ?_
  refine TL.nil ?_
  refine TQ.next ?_
  refine TC.seq ?_
  refine TC.seq ?_
  refine TC.region ?_
  refine TL.val rfl rfl rfl (Y.move rfl rfl) ?_
  refine TL.val rfl rfl rfl (by first | exact Y.eqNilP rfl Try.underlying26 rfl rfl | exact Y.eqNil0 rfl Try.underlying26 rfl rfl) ?_
  refine TL.nil ?_
  refine TQ.next ?_
  refine TC.cond_f rfl ?_
  refine TC.skip ?_
  refine TQ.next ?_
  refine TC.seq ?_
  refine TC.region ?_
  refine TL.val rfl rfl rfl (Y.move rfl rfl) ?_
  refine TL.val rfl rfl rfl (Y.nilCheck rfl rfl) ?_
  refine TL.val rfl rfl rfl (by first | exact Y.fieldAddrJ rfl fo68_9 rfl nqq | exact Y.fieldAddr rfl fo68_9 rfl nqq) ?_
  refine TL.val rfl rfl rfl (Y.load rfl sc64 rfl celD) ?_
  refine TL.as (.slice p.qa S.queue.length p.qc) (by rfl) ?_
  refine TL.val rfl rfl rfl (Y.len rfl Try.underlying64 rfl) ?_
  refine TL.val rfl rfl rfl (Y.assign rfl rfl) ?_
  refine TL.nil ?_
  refine TQ.next ?_
  refine TC.ret ?_
  refine TQ.retE (res1 rfl rfl) (⟨rfl, rfl⟩) ?_
  exact ett
theorem State_nil (L : List SA) : Fn Try.prog 14 [.pointer none] L (fun v L' => v = vN 0 ∧ L' = L) := by
  refine Fn.of (N := 9) Try.func14 rfl rfl ?_
  intro Xh
  refine TC.seq ?_
  refine TC.region ?_
  refine TL.val rfl rfl rfl (Y.assign rfl rfl) ?_
  refine TL.nil ?_
  refine TQ.next ?_
  refine TC.seq ?_
  refine TC.seq ?_
  refine TC.region ?_
  refine TL.val rfl rfl rfl (Y.move rfl rfl) ?_
  refine TL.val rfl rfl rfl (by first | exact Y.eqNilP rfl Try.underlying26 rfl rfl | exact Y.eqNil0 rfl Try.underlying26 rfl rfl) ?_
  refine TL.nil ?_
  refine TQ.next ?_
  refine TC.cond_t rfl ?_
  refine TC.seq ?_
  refine TC.region ?_
  refine TL.val rfl rfl rfl (Y.assign rfl rfl) ?_
  refine TL.nil ?_
  refine TQ.next ?_
  refine TC.ret ?_
  refine TQ.then_ret ?_
  refine TQ.retE (res1 rfl rfl) (⟨rfl, rfl⟩) ?_
  exact ett
theorem Waiting_nil (L : List SA) : Fn Try.prog 22 [.pointer none] L (fun v L' => v = vN 0 ∧ L' = L) := by
  refine Fn.of (N := 10) Try.func22 rfl rfl ?_
  intro Xh
  refine TC.seq ?_
  refine TC.region ?_
  refine TL.val rfl rfl rfl (Y.assign rfl rfl) ?_
  refine TL.nil ?_
  refine TQ.next ?_
  refine TC.seq ?_
  refine TC.seq ?_
  refine TC.region ?_
  refine TL.val rfl rfl rfl (Y.move rfl rfl) ?_
  refine TL.val rfl rfl rfl (by first | exact Y.eqNilP rfl Try.underlying26 rfl rfl | exact Y.eqNil0 rfl Try.underlying26 rfl rfl) ?_
  refine TL.nil ?_
  refine TQ.next ?_
  refine TC.cond_t rfl ?_
  refine TC.seq ?_
  refine TC.region ?_
  refine TL.val rfl rfl rfl (Y.assign rfl rfl) ?_
  refine TL.nil ?_
  refine TQ.next ?_
  refine TC.ret ?_
  refine TQ.then_ret ?_
  refine TQ.retE (res1 rfl rfl) (⟨rfl, rfl⟩) ?_
  exact ett
theorem Start_nil (now : Value) (L : List SA) : Fn Try.prog 23 [.pointer none, now] L (fun v L' => v = .tuple #[.slice none 0 0, vN 1] ∧ L' = L) := by
  refine Fn.of (N := 45) Try.func23 rfl rfl ?_
  intro Xh
  refine TC.seq ?_
  refine TC.region ?_
  refine TL.val rfl rfl rfl (Y.assign rfl rfl) ?_
  refine TL.val rfl rfl rfl (Y.assign rfl rfl) ?_
  refine TL.nil ?_
  refine TQ.next ?_
  refine TC.seq ?_
  refine TC.seq ?_
  refine TC.region ?_
  refine TL.val rfl rfl rfl (Y.move rfl rfl) ?_
  refine TL.val rfl rfl rfl (by first | exact Y.eqNilP rfl Try.underlying26 rfl rfl | exact Y.eqNil0 rfl Try.underlying26 rfl rfl) ?_
  refine TL.nil ?_
  refine TQ.next ?_
  refine TC.cond_t rfl ?_
  refine TC.seq ?_
  refine TC.region ?_
  refine TL.val rfl rfl rfl (Y.assign rfl rfl) ?_
  refine TL.val rfl rfl rfl (Y.assign rfl rfl) ?_
  refine TL.nil ?_
  refine TQ.next ?_
  refine TC.ret ?_
  refine TQ.then_ret ?_
  refine TQ.retE (res2 rfl rfl rfl) (⟨rfl, rfl⟩) ?_
  exact ett
theorem Handle_nil (s now : Value) (L : List SA) : Fn Try.prog 12 [.pointer none, s, now] L (fun v L' => v = .tuple #[.slice none 0 0, .slice none 0 0, vN 1] ∧ L' = L) := by
  refine Fn.of (N := 160) Try.func12 rfl rfl ?_
  intro Xh
  refine TC.seq ?_
  refine TC.region ?_
  refine TL.val rfl rfl rfl (Y.assign rfl rfl) ?_
  refine TL.val rfl rfl rfl (Y.assign rfl rfl) ?_
  refine TL.val rfl rfl rfl (Y.assign rfl rfl) ?_
  refine TL.nil ?_
  refine TQ.next ?_
  refine TC.seq ?_
  refine TC.seq ?_
  refine TC.region ?_
  refine TL.val rfl rfl rfl (Y.move rfl rfl) ?_
  refine TL.val rfl rfl rfl (by first | exact Y.eqNilP rfl Try.underlying26 rfl rfl | exact Y.eqNil0 rfl Try.underlying26 rfl rfl) ?_
  refine TL.nil ?_
  refine TQ.next ?_
  refine TC.cond_t rfl ?_
  refine TC.seq ?_
  refine TC.region ?_
  refine TL.val rfl rfl rfl (Y.assign rfl rfl) ?_
  refine TL.val rfl rfl rfl (Y.assign rfl rfl) ?_
  refine TL.val rfl rfl rfl (Y.assign rfl rfl) ?_
  refine TL.nil ?_
  refine TQ.next ?_
  refine TC.ret ?_
  refine TQ.then_ret ?_
  refine TQ.retE (resL rfl (Res.tmp rfl (Res.tmp rfl (Res.tmp rfl Res.nil)))) (⟨rfl, rfl⟩) ?_
  exact ett
theorem Send_nil (m now : Value) (L : List SA) : Fn Try.prog 19 [.pointer none, m, now] L (fun v L' => v = .tuple #[.slice none 0 0, vN 1] ∧ L' = L) := by
  refine Fn.of (N := 52) Try.func19 rfl rfl ?_
  intro Xh
  refine TC.seq ?_
  refine TC.region ?_
  refine TL.eff rfl rfl rfl (X.box rfl rfl rfl) ?_
  rintro _ _ ⟨b4, rfl, rfl⟩
  refine TL.val rfl rfl rfl (Y.assign rfl rfl) ?_
  refine TL.val rfl rfl rfl (Y.assign rfl rfl) ?_
  refine TL.nil ?_
  refine TQ.next ?_
  refine TC.seq ?_
  refine TC.block ?_
  refine TC.seq ?_
  refine TC.region ?_
  refine TL.val rfl rfl rfl (Y.move rfl rfl) ?_
  refine TL.val rfl rfl rfl (by first | exact Y.eqNilP rfl Try.underlying26 rfl rfl | exact Y.eqNil0 rfl Try.underlying26 rfl rfl) ?_
  refine TL.val rfl rfl rfl (Y.assign rfl rfl) ?_
  refine TL.nil ?_
  refine TQ.next ?_
  refine TC.cond_t rfl ?_
  refine TC.seq ?_
  refine TC.region ?_
  refine TL.val rfl rfl rfl (Y.assign rfl rfl) ?_
  refine TL.val rfl rfl rfl (Y.assign rfl rfl) ?_
  refine TL.nil ?_
  refine TQ.next ?_
  refine TC.ret ?_
  refine TQ.block_ret ?_
  refine TQ.then_ret ?_
  refine TQ.retE (res2 rfl rfl rfl) (⟨rfl, rfl⟩) ?_
  exact ett
theorem Tick_nil (now : Value) (L : List SA) : Fn Try.prog 20 [.pointer none, now] L (fun v L' => v = .slice none 0 0 ∧ L' = L) := by
  refine Fn.of (N := 111) Try.func20 rfl rfl ?_
  intro Xh
  refine TC.seq ?_
  refine TC.region ?_
  refine TL.val rfl rfl rfl (Y.assign rfl rfl) ?_
  refine TL.nil ?_
  refine TQ.next ?_
  refine TC.scope ?_
  refine TC.seq ?_
  refine TC.seq ?_
  refine TC.region ?_
  refine TL.val rfl rfl rfl (Y.move rfl rfl) ?_
  refine TL.val rfl rfl rfl (by first | exact Y.eqNilP rfl Try.underlying26 rfl rfl | exact Y.eqNil0 rfl Try.underlying26 rfl rfl) ?_
  refine TL.nil ?_
  refine TQ.next ?_
  refine TC.cond_t rfl ?_
  refine TC.seq ?_
  refine TC.region ?_
  refine TL.val rfl rfl rfl (Y.assign rfl rfl) ?_
  refine TL.nil ?_
  refine TQ.next ?_
  refine TC.ret ?_
  refine TQ.then_ret ?_
  refine TQ.scope_ret ?_
  refine TQ.retE (res1 rfl rfl) (⟨rfl, rfl⟩) ?_
  exact ett
theorem Abort_nil (L : List SA) : Fn Try.prog 24 [.pointer none] L (fun v L' => v = .slice none 0 0 ∧ L' = L) := by
  refine Fn.of (N := 22) Try.func24 rfl rfl ?_
  intro Xh
  refine TC.seq ?_
  refine TC.region ?_
  refine TL.val rfl rfl rfl (Y.assign rfl rfl) ?_
  refine TL.nil ?_
  refine TQ.next ?_
  refine TC.seq ?_
  refine TC.seq ?_
  refine TC.region ?_
  refine TL.val rfl rfl rfl (Y.move rfl rfl) ?_
  refine TL.val rfl rfl rfl (by first | exact Y.eqNilP rfl Try.underlying26 rfl rfl | exact Y.eqNil0 rfl Try.underlying26 rfl rfl) ?_
  refine TL.nil ?_
  refine TQ.next ?_
  refine TC.cond_t rfl ?_
  refine TC.seq ?_
  refine TC.region ?_
  refine TL.val rfl rfl rfl (Y.assign rfl rfl) ?_
  refine TL.nil ?_
  refine TQ.next ?_
  refine TC.ret ?_
  refine TQ.then_ret ?_
  refine TQ.retE (res1 rfl rfl) (⟨rfl, rfl⟩) ?_
  exact ett
/-- a packet's head -/
def pkt (tag : UInt32) (kind : UInt8) : List UInt8 := be32 tag ++ be32 (shl32 kind.toUInt32 24)
theorem pkt_len (tag : UInt32) (kind : UInt8) : (pkt tag kind).length = 8 := rfl
--REG rostrum/assoc.packet : _ _ ⟨a{d}, c{d}, rfl, rfl⟩ => (ac.packet_fn _ {1} _)
theorem packet_fn (tag : UInt32) (kind : UInt8) (L : List SA) : Fn Try.prog 44 [v32 tag, v8 kind] L (fun v L' => ∃ a c, v = .slice a 8 c ∧ L' = SA.owns 5 1 (.slice a 8 c) 8 ((pkt tag kind).map v8) :: L) := by
  refine Fn.of (N := 13) Try.func44 rfl rfl ?_
  intro Xh
  refine TC.seq ?_
  refine TC.region ?_
  refine TL.val rfl rfl rfl (Y.assign rfl rfl) ?_
  refine TL.nil ?_
  refine TQ.next ?_
  refine TC.seq ?_
  refine TC.region ?_
  refine TL.eff rfl rfl rfl (X.alloc rfl zc85) ?_
  rintro _ _ ⟨b5, rfl, rfl⟩
  refine TL.nil ?_
  refine TQ.to (wr.mk0 (b := b5)) ?_
  refine TQ.next ?_
  refine TC.seq ?_
  refine TC.region ?_
  refine TL.val rfl rfl rfl (Y.move rfl rfl) ?_
  refine TL.eff rfl rfl rfl (X.call rfl Try.func45 (by kernel_rfl) rfl rfl (Fn.preE (by repeat first | (with_reducible apply Ent.refl) | (apply Ent.cons; case h => first | (with_reducible (repeat first | apply Pull.here | apply Pull.there); done) | (repeat first | apply Pull.here | apply Pull.there))) (wr.U32_fn _ _ _ (by first | omega | (simp only [List.length_append, List.length_nil, List.length_cons, wr.be16_len, wr.be32_len]; omega) | (simp only [List.length_append, List.length_nil, List.length_cons, wr.be16_len, wr.be32_len, r1.be2_len, r1.be4_len]; omega) | (simp; omega)) _))) ?_
  rintro _ _ ⟨rfl, rfl⟩
  refine TL.nil ?_
  refine TQ.next ?_
  refine TC.seq ?_
  refine TC.region ?_
  refine TL.val rfl rfl rfl (Y.move rfl rfl) ?_
  refine TL.val rfl rfl rfl (Y.conv rfl Try.underlying5 Try.underlying22 rfl (cv_8_32)) ?_
  refine TL.val rfl rfl rfl (Y.bin rfl rfl rfl (br_shl32 (n := 24))) ?_
  refine TL.eff rfl rfl rfl (X.call rfl Try.func45 (by kernel_rfl) rfl rfl (Fn.preE (by repeat first | (with_reducible apply Ent.refl) | (apply Ent.cons; case h => first | (with_reducible (repeat first | apply Pull.here | apply Pull.there); done) | (repeat first | apply Pull.here | apply Pull.there))) (wr.U32_fn _ _ _ (by first | omega | (simp only [List.length_append, List.length_nil, List.length_cons, wr.be16_len, wr.be32_len]; omega) | (simp only [List.length_append, List.length_nil, List.length_cons, wr.be16_len, wr.be32_len, r1.be2_len, r1.be4_len]; omega) | (simp; omega)) _))) ?_
  rintro _ _ ⟨rfl, rfl⟩
  refine TL.nil ?_
  refine TQ.next ?_
  refine TC.seq ?_
  refine TC.open pul ?_
  rintro ⟨a, c⟩
  refine TC.split pul ?_
  refine TC.region ?_
  refine TL.val rfl rfl rfl (Y.load rfl sc85 rfl celD) ?_
  refine TL.val rfl rfl rfl (Y.assign rfl rfl) ?_
  refine TL.nil ?_
  refine TQ.next ?_
  refine TC.ret ?_
  refine TQ.retE (res1 rfl rfl) (⟨_, _, rfl, rfl⟩) ?_
  exact ett
end ac
end Go.Proofs.Ytomplpdeeomehaa
