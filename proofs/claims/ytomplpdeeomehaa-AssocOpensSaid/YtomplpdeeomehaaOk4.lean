/- The logic and the walks, in one text with others: part 4 of 6. -/
import Derived.Test.YtomplpdeeomehaaOk3
/- assoc: Send, walked. -/
namespace Go.Proofs.Ytomplpdeeomehaa
set_option linter.unusedVariables false
set_option linter.unusedSimpArgs false
open Go.RowKit
namespace ac
open wr (be16 be32)
namespace FxAsW
set_option maxRecDepth 100000
theorem pl82 : Program.places Try.prog 82 = some [(0, 3), (3, 1)] := by kernel_rfl
theorem zc82 : Program.zeroC Try.prog 82 = some #[.int .u16 0, .int .u32 0, .slice none 0 0, .bool false] := by kernel_rfl
end FxAsW
open Go.Proofs.Ytomplpdeeomehaa.ac.FxAsC Go.Proofs.Ytomplpdeeomehaa.ac.FxAsQ Go.Proofs.Ytomplpdeeomehaa.ac.FxAsA Go.Proofs.Ytomplpdeeomehaa.rd.FxWireR FxAsW
theorem Ent.itm {st : UInt16} {kd : UInt32} {bs : Bs} {co : Bool} {L L1 : List SA} (h : Pull (SA.dat bs) L L1) : Ent L (SA.dat (((st, kd, bs), co) : Itm) :: L1) := by
  have : Dat.g (((st, kd, bs), co) : Itm) = Dat.g bs := List.append_nil _
  refine h.ent.trans ?_
  unfold SA.dat
  rw [this]
  exact Ent.refl
section
variable (b : Nat) (p : AP) (S : AS Msg) (st : UInt16) (kd : UInt32) (ma : Option Addr) (mn mc : Nat) (ml : List UInt8) (hn : ml.length = mn) (hl : mn ≤ 140737488351232) (now : Int)
include hn hl
omit hn hl in
theorem Send_state (hs : S.state ≠ 3) (L : List SA) : Fn Try.prog 19 [pt b 0, .agg (msC st kd (.slice ma mn mc)), vI now] (aB b p S :: SA.rds 1 (.slice ma mn mc) mn (ml.map v8) :: L) (fun v L' => v = .tuple #[.slice none 0 0, vN 9] ∧ L' = aB b p S :: SA.rds 1 (.slice ma mn mc) mn (ml.map v8) :: L) := by
  refine Fn.of (N := 52) Try.func19 rfl rfl ?_
  intro Xh
  refine TC.seq (TC.region ?_)
  refine TL.eff rfl rfl rfl (X.box (cs := msC st kd (.slice ma mn mc)) rfl rfl rfl) ?_
  rintro _ _ ⟨b4, rfl, rfl⟩
  refine TL.sg ?_
  refine TL.sg ?_
  refine TL.nil (TQ.next (TC.seq (TC.block (TC.seq (TC.region ?_)))))
  refine TL.mv ?_
  refine TL.val rfl rfl rfl (by first | exact Y.eqNilP rfl Try.underlying26 rfl rfl | exact Y.eqNil0 rfl Try.underlying26 rfl rfl) ?_
  refine TL.sg ?_
  refine TL.nil (TQ.next ?_)
  refine TC.cond_f rfl ?_
  refine TC.seq (TC.region ?_)
  refine TL.mv ?_
  refine TL.nc ?_
  refine TL.val rfl rfl rfl (by first | exact Y.fieldAddrJ rfl fo68_3 rfl nqq | exact Y.fieldAddr rfl fo68_3 rfl nqq) ?_
  refine TL.val rfl rfl rfl (Y.load rfl sc3 rfl celN) ?_
  refine TL.as (vN S.state) (by rfl) ?_
  refine TL.val rfl rfl rfl (Y.bin rfl rfl rfl (br_neN (n := 3))) ?_
  refine TL.is true (by (simpa using hs)) ?_
  refine TL.sg ?_
  refine TL.nil (TQ.next ?_)
  refine TC.cond_t rfl ?_
  refine TC.seq (TC.region ?_)
  refine TL.sg ?_
  refine TL.sg ?_
  refine TL.nil (TQ.next (TC.ret (TQ.block_ret (TQ.then_ret ?_))))
  refine TQ.retE (res2 rfl rfl rfl) (⟨rfl, rfl⟩) ?_
  exact ett
omit hn hl in
theorem Send_large (hs : S.state = 3) (hm : 1024 < mn) (L : List SA) : Fn Try.prog 19 [pt b 0, .agg (msC st kd (.slice ma mn mc)), vI now] (aB b p S :: SA.rds 1 (.slice ma mn mc) mn (ml.map v8) :: L) (fun v L' => v = .tuple #[.slice none 0 0, vN 3] ∧ L' = aB b p S :: SA.rds 1 (.slice ma mn mc) mn (ml.map v8) :: L) := by
  refine Fn.of (N := 52) Try.func19 rfl rfl ?_
  intro Xh
  refine TC.seq (TC.region ?_)
  refine TL.eff rfl rfl rfl (X.box (cs := msC st kd (.slice ma mn mc)) rfl rfl rfl) ?_
  rintro _ _ ⟨b4, rfl, rfl⟩
  refine TL.sg ?_
  refine TL.sg ?_
  refine TL.nil (TQ.next (TC.seq (TC.block (TC.seq (TC.region ?_)))))
  refine TL.mv ?_
  refine TL.val rfl rfl rfl (by first | exact Y.eqNilP rfl Try.underlying26 rfl rfl | exact Y.eqNil0 rfl Try.underlying26 rfl rfl) ?_
  refine TL.sg ?_
  refine TL.nil (TQ.next ?_)
  refine TC.cond_f rfl ?_
  refine TC.seq (TC.region ?_)
  refine TL.mv ?_
  refine TL.nc ?_
  refine TL.val rfl rfl rfl (by first | exact Y.fieldAddrJ rfl fo68_3 rfl nqq | exact Y.fieldAddr rfl fo68_3 rfl nqq) ?_
  refine TL.val rfl rfl rfl (Y.load rfl sc3 rfl celN) ?_
  refine TL.as (vN S.state) (by rfl) ?_
  refine TL.val rfl rfl rfl (Y.bin rfl rfl rfl (br_neN (n := 3))) ?_
  refine TL.is false (by (simpa using hs)) ?_
  refine TL.sg ?_
  refine TL.nil (TQ.next ?_)
  refine TC.cond_f rfl ?_
  refine TC.seq (TC.region ?_)
  refine TL.val rfl rfl rfl (by first | exact Y.fieldAddrJ rfl fo51_2 rfl nqq | exact Y.fieldAddr rfl fo51_2 rfl nqq) ?_
  refine TL.val rfl rfl rfl (Y.load rfl sc23 rfl celD) ?_
  refine TL.as (.slice ma mn mc) (by rfl) ?_
  refine TL.val rfl rfl rfl (Y.len rfl Try.underlying23 rfl) ?_
  refine TL.val rfl rfl rfl (Y.bin rfl rfl rfl (br_gtN (n := 1024))) ?_
  refine TL.is true (by (simpa using hm)) ?_
  refine TL.sg ?_
  refine TL.nil (TQ.next ?_)
  refine TC.cond_t rfl ?_
  refine TC.seq (TC.region ?_)
  refine TL.sg ?_
  refine TL.sg ?_
  refine TL.nil (TQ.next (TC.ret (TQ.block_ret (TQ.then_ret ?_))))
  refine TQ.retE (res2 rfl rfl rfl) (⟨rfl, rfl⟩) ?_
  exact ett
omit hn hl in
theorem Send_full (hs : S.state = 3) (hm : mn ≤ 1024) (hq : S.queue.length = 32) (L : List SA) : Fn Try.prog 19 [pt b 0, .agg (msC st kd (.slice ma mn mc)), vI now] (aB b p S :: SA.rds 1 (.slice ma mn mc) mn (ml.map v8) :: L) (fun v L' => v = .tuple #[.slice none 0 0, vN 6] ∧ L' = aB b p S :: SA.rds 1 (.slice ma mn mc) mn (ml.map v8) :: L) := by
  refine Fn.of (N := 52) Try.func19 rfl rfl ?_
  intro Xh
  refine TC.seq (TC.region ?_)
  refine TL.eff rfl rfl rfl (X.box (cs := msC st kd (.slice ma mn mc)) rfl rfl rfl) ?_
  rintro _ _ ⟨b4, rfl, rfl⟩
  refine TL.sg ?_
  refine TL.sg ?_
  refine TL.nil (TQ.next (TC.seq (TC.block (TC.seq (TC.region ?_)))))
  refine TL.mv ?_
  refine TL.val rfl rfl rfl (by first | exact Y.eqNilP rfl Try.underlying26 rfl rfl | exact Y.eqNil0 rfl Try.underlying26 rfl rfl) ?_
  refine TL.sg ?_
  refine TL.nil (TQ.next ?_)
  refine TC.cond_f rfl ?_
  refine TC.seq (TC.region ?_)
  refine TL.mv ?_
  refine TL.nc ?_
  refine TL.val rfl rfl rfl (by first | exact Y.fieldAddrJ rfl fo68_3 rfl nqq | exact Y.fieldAddr rfl fo68_3 rfl nqq) ?_
  refine TL.val rfl rfl rfl (Y.load rfl sc3 rfl celN) ?_
  refine TL.as (vN S.state) (by rfl) ?_
  refine TL.val rfl rfl rfl (Y.bin rfl rfl rfl (br_neN (n := 3))) ?_
  refine TL.is false (by (simpa using hs)) ?_
  refine TL.sg ?_
  refine TL.nil (TQ.next ?_)
  refine TC.cond_f rfl ?_
  refine TC.seq (TC.region ?_)
  refine TL.val rfl rfl rfl (by first | exact Y.fieldAddrJ rfl fo51_2 rfl nqq | exact Y.fieldAddr rfl fo51_2 rfl nqq) ?_
  refine TL.val rfl rfl rfl (Y.load rfl sc23 rfl celD) ?_
  refine TL.as (.slice ma mn mc) (by rfl) ?_
  refine TL.val rfl rfl rfl (Y.len rfl Try.underlying23 rfl) ?_
  refine TL.val rfl rfl rfl (Y.bin rfl rfl rfl (br_gtN (n := 1024))) ?_
  refine TL.is false (by (simpa using hm)) ?_
  refine TL.sg ?_
  refine TL.nil (TQ.next ?_)
  refine TC.cond_f rfl ?_
  refine TC.seq (TC.region ?_)
  refine TL.mv ?_
  refine TL.nc ?_
  refine TL.val rfl rfl rfl (by first | exact Y.fieldAddrJ rfl fo68_9 rfl nqq | exact Y.fieldAddr rfl fo68_9 rfl nqq) ?_
  refine TL.val rfl rfl rfl (Y.load rfl sc64 rfl celD) ?_
  refine TL.as (.slice p.qa S.queue.length p.qc) (by rfl) ?_
  refine TL.val rfl rfl rfl (Y.len rfl Try.underlying64 rfl) ?_
  refine TL.val rfl rfl rfl (Y.bin rfl rfl rfl (br_eqN (n := 32))) ?_
  refine TL.is true (by (simpa using hq)) ?_
  refine TL.sg ?_
  refine TL.nil (TQ.next ?_)
  refine TC.cond_t rfl ?_
  refine TC.seq (TC.region ?_)
  refine TL.sg ?_
  refine TL.sg ?_
  refine TL.nil (TQ.next (TC.ret (TQ.block_ret (TQ.then_ret ?_))))
  refine TQ.retE (res2 rfl rfl rfl) (⟨rfl, rfl⟩) ?_
  exact ett
set_option maxHeartbeats 2000000 in
theorem Send_yes (hs : S.state = 3) (hm : mn ≤ 1024) (hq : S.queue.length < 32) (hsh : Short S) (hs1 : S.sent ≤ S.queue.length) (h16 : S.sent ≤ 16) (L : List SA) :
    Fn Try.prog 19 [pt b 0, .agg (msC st kd (.slice ma mn mc)), vI now] (aB b p S :: aQ p S :: aD S :: SA.rds 1 (.slice ma mn mc) mn (ml.map v8) :: L)
      (fun v L' => ∃ (o : Sl Bs) (p' : AP) (bs : Bs), p'.sa = p.sa ∧ p'.sc = p.sc ∧ p'.mb = p.mb ∧ p'.ha = p.ha ∧ p'.hc = p.hc ∧ v = .tuple #[o.v, vN 0] ∧ bs.l = ml ∧ o.l.map (·.l) = (abs (S.taken (st, kd, bs) now)).moreOut ∧
        L' = SA.dat o :: aB b p' (S.taken (st, kd, bs) now).more :: aQ p' (S.taken (st, kd, bs) now) :: aD (S.taken (st, kd, bs) now) :: SA.rds 1 (.slice ma mn mc) mn (ml.map v8) :: L) := by
  refine Fn.of (N := 52) Try.func19 rfl rfl ?_
  intro Xh
  refine TC.seq (TC.region ?_)
  refine TL.eff rfl rfl rfl (X.box (cs := msC st kd (.slice ma mn mc)) rfl rfl rfl) ?_
  rintro _ _ ⟨b4, rfl, rfl⟩
  refine TL.sg ?_
  refine TL.sg ?_
  refine TL.nil (TQ.next (TC.seq (TC.block (TC.seq (TC.region ?_)))))
  refine TL.mv ?_
  refine TL.val rfl rfl rfl (by first | exact Y.eqNilP rfl Try.underlying26 rfl rfl | exact Y.eqNil0 rfl Try.underlying26 rfl rfl) ?_
  refine TL.sg ?_
  refine TL.nil (TQ.next ?_)
  refine TC.cond_f rfl ?_
  refine TC.seq (TC.region ?_)
  refine TL.mv ?_
  refine TL.nc ?_
  refine TL.val rfl rfl rfl (by first | exact Y.fieldAddrJ rfl fo68_3 rfl nqq | exact Y.fieldAddr rfl fo68_3 rfl nqq) ?_
  refine TL.val rfl rfl rfl (Y.load rfl sc3 rfl celN) ?_
  refine TL.as (vN S.state) (by rfl) ?_
  refine TL.val rfl rfl rfl (Y.bin rfl rfl rfl (br_neN (n := 3))) ?_
  refine TL.is false (by (simpa using hs)) ?_
  refine TL.sg ?_
  refine TL.nil (TQ.next ?_)
  refine TC.cond_f rfl ?_
  refine TC.seq (TC.region ?_)
  refine TL.val rfl rfl rfl (by first | exact Y.fieldAddrJ rfl fo51_2 rfl nqq | exact Y.fieldAddr rfl fo51_2 rfl nqq) ?_
  refine TL.val rfl rfl rfl (Y.load rfl sc23 rfl celD) ?_
  refine TL.as (.slice ma mn mc) (by rfl) ?_
  refine TL.val rfl rfl rfl (Y.len rfl Try.underlying23 rfl) ?_
  refine TL.val rfl rfl rfl (Y.bin rfl rfl rfl (br_gtN (n := 1024))) ?_
  refine TL.is false (by (simpa using hm)) ?_
  refine TL.sg ?_
  refine TL.nil (TQ.next ?_)
  refine TC.cond_f rfl ?_
  refine TC.seq (TC.region ?_)
  refine TL.mv ?_
  refine TL.nc ?_
  refine TL.val rfl rfl rfl (by first | exact Y.fieldAddrJ rfl fo68_9 rfl nqq | exact Y.fieldAddr rfl fo68_9 rfl nqq) ?_
  refine TL.val rfl rfl rfl (Y.load rfl sc64 rfl celD) ?_
  refine TL.as (.slice p.qa S.queue.length p.qc) (by rfl) ?_
  refine TL.val rfl rfl rfl (Y.len rfl Try.underlying64 rfl) ?_
  refine TL.val rfl rfl rfl (Y.bin rfl rfl rfl (br_eqN (n := 32))) ?_
  refine TL.is false (by (simp; omega)) ?_
  refine TL.sg ?_
  refine TL.nil (TQ.next ?_)
  refine TC.cond_f rfl ?_
  refine TC.skip (TQ.block_normal (TQ.next (TC.seq (TC.region ?_))))
  refine TL.mv ?_
  refine TL.mv ?_
  refine TL.nc ?_
  refine TL.val rfl rfl rfl (by first | exact Y.fieldAddrJ rfl fo68_11 rfl nqq | exact Y.fieldAddr rfl fo68_11 rfl nqq) ?_
  refine TL.val rfl rfl rfl (Y.load rfl sc2 rfl celN) ?_
  refine TL.as (vI S.clock) (by rfl) ?_
  refine TL.mv ?_
  refine TL.val rfl rfl rfl (Y.maxI rfl rfl rfl) ?_
  refine TL.as (vI (max S.clock now)) (by rfl) ?_
  refine TL.nc ?_
  refine TL.val rfl rfl rfl (by first | exact Y.fieldAddrJ rfl fo68_11 rfl nqq | exact Y.fieldAddr rfl fo68_11 rfl nqq) ?_
  refine TL.eff0 rfl rfl (X.store (cs' := asC p (S.clocked now)) rfl (by kernel_rfl) rfl rfl rfl pul (by show 11 < 17; decide) rfl) ?_
  rintro _ _ rfl
  refine TL.nil (TQ.next (TC.seq ?_))
  refine TC.draws 12 [aB b p (S.clocked now), SA.blk b4 (msC st kd (.slice ma mn mc)) 51] (by kernel_rfl) (by kernel_rfl) hld ?_
  refine TA.tk 0 rfl rfl (Y.move rfl rfl) ?_
  refine TA.tk 1 rfl rfl (Y.move rfl rfl) ?_
  refine TA.tk 2 rfl rfl (Y.nilCheck rfl rfl) ?_
  refine TA.tk 3 rfl rfl (by first | exact Y.fieldAddrJ rfl fo68_9 rfl nqq | exact Y.fieldAddr rfl fo68_9 rfl nqq) ?_
  refine TA.tk 4 rfl rfl (Y.load rfl sc64 rfl celD) ?_
  refine TA.as (.slice p.qa S.queue.length p.qc) (by rfl) ?_
  refine TA.tk 5 rfl rfl (Y.loadAgg rfl ag51 rfl (Cels.all (cs := msC st kd (.slice ma mn mc)) inn) (by first | rfl | ((try simp only [List.length_map, List.length_set, List.length_replicate]); omega))) ?_
  refine TA.as (.agg (msC st kd (.slice ma mn mc))) (by rfl) ?_
  refine TA.one 6 (by kernel_rfl) rfl rfl rfl rfl (X.cl rfl Try.func41 rfl (h := (copy_fn st kd ma mn mc ml hn hl _))) ?_
  rintro _ _ ⟨ca, cc, rfl, rfl⟩
  refine ⟨(Or.inr hld), ?_⟩
  refine TA.to ((Pull.ent (A := SA.owns 5 1 (.slice ca mn cc) mn (ml.map v8)) pul).trans (Ent.freeze.trans (Ent.mkBytes hn))) ?_
  refine TA.tk 7 rfl rfl (Y.buildS (cells := #[v16 st, v32 kd, .slice ca mn cc, .bool false]) rfl rfl pl82 zc82 (by kernel_rfl)) ?_
  refine TA.as (.agg (Dat.c (((st, kd, ⟨ca, cc, ml⟩), false) : Itm)).toArray) (by (subst hn; rfl)) ?_
  refine TA.one 8 (by kernel_rfl) rfl rfl rfl rfl (X.litD (sz := 4) (((st, kd, ⟨ca, cc, ml⟩), false) : Itm) rfl Try.underlying64 (by kernel_rfl) rfl rfl (by decide)) ?_
  rintro _ _ ⟨g46, rfl, rfl⟩
  refine ⟨(Or.inr hld), ?_⟩
  refine TA.one 9 (by kernel_rfl) rfl rfl rfl rfl (X.appendS rfl el64 rfl pul rfl (by first | exact Src.owns Try.underlying64 inn | exact Src.rds Try.underlying64 inn | exact Src.reads (by assumption) Try.underlying64 inn) (by simp only [maxLen]; omega) (by omega)) ?_
  rintro _ _ ⟨a47, c47, rfl, rfl⟩
  rw [show Dat.cs S.queue ++ Dat.c (((st, kd, ⟨ca, cc, ml⟩), false) : Itm) = Dat.cs (S.queue ++ [(((st, kd, ⟨ca, cc, ml⟩), false) : Itm)]) by rw [Dat.cs_app, Dat.cs_one], show S.queue.length + 1 = (S.queue ++ [(((st, kd, ⟨ca, cc, ml⟩), false) : Itm)]).length by simp]
  refine ⟨(Or.inr hld), ?_⟩
  refine TA.tp 10 rfl rfl (Y.nilCheck rfl rfl) ?_
  refine TA.tk 11 rfl rfl (by first | exact Y.fieldAddrJ rfl fo68_9 rfl nqq | exact Y.fieldAddr rfl fo68_9 rfl nqq) ?_
  refine TA.one0 12 (by kernel_rfl) rfl rfl rfl (X.store (cs' := asC { p with qa := a47, qc := c47 } (S.taken (st, kd, ⟨ca, cc, ml⟩) now)) rfl (by kernel_rfl) rfl rfl rfl pul (by show 9 < 17; decide) rfl) ?_
  rintro _ _ rfl
  refine ⟨(Or.inl (by kernel_rfl)), ?_⟩
  refine TA.done (by kernel_rfl) ?_
  refine TQ.next (TC.seq ?_)
  refine TC.to (Ent.itm (st := st) (kd := kd) (bs := ⟨ca, cc, ml⟩) (co := false) pul) ?_
  refine TC.to (Ent.addEl (ys := S.queue) (x := (((st, kd, ⟨ca, cc, ml⟩), false) : Itm)) pul pul) ?_
  obtain ⟨S2, hS2⟩ : ∃ S2 : AS Msg, S2 = S.taken (st, kd, ⟨ca, cc, ml⟩) now := ⟨_, rfl⟩
  have hq2 : S.queue ++ [(((st, kd, ⟨ca, cc, ml⟩), false) : Itm)] = S2.queue := by rw [hS2]; rfl
  rw [← hS2, hq2]
  have hsh2 : Short S2 := ⟨fun x hx => by
      rw [← hq2] at hx
      rcases List.mem_append.1 hx with hx | hx
      · exact hsh.queue x hx
      · rw [List.mem_singleton.1 hx]; show ml.length ≤ 1024; omega⟩
  refine TC.region ?_
  refine TL.mv ?_
  refine TL.eff rfl rfl rfl (X.cl rfl Try.func42 rfl (h := (more_fn b { p with qa := a47, qc := c47 } S2 hsh2 (by rw [← hq2, hS2, List.length_append]; show S.sent ≤ _; omega) (by rw [hS2]; exact h16) _))) ?_
  rintro _ _ ⟨o, rfl, ho, rfl⟩
  refine TL.sg ?_
  refine TL.sg ?_
  refine TL.nil (TQ.next (TC.ret ?_))
  refine TQ.retE (res2 rfl rfl rfl) (⟨o, { p with qa := a47, qc := c47 }, ⟨ca, cc, ml⟩, rfl, rfl, rfl, rfl, rfl, rfl, rfl, by rw [← hS2]; exact ho, by rw [← hS2]⟩) ?_
  exact ett
end
end ac
end Go.Proofs.Ytomplpdeeomehaa


/- assoc: Tick, walked. -/
namespace Go.Proofs.Ytomplpdeeomehaa
set_option linter.unusedVariables false
set_option linter.unusedSimpArgs false
open Go.RowKit
namespace ac
open wr (be16 be32)
namespace FxAsX
set_option maxRecDepth 100000
theorem fo66_1 : Program.fieldOff Try.prog 66 1 = some 1 := by kernel_rfl
theorem fo66_2 : Program.fieldOff Try.prog 66 2 = some 2 := by kernel_rfl
theorem fo66_3 : Program.fieldOff Try.prog 66 3 = some 3 := by kernel_rfl
end FxAsX
open Go.Proofs.Ytomplpdeeomehaa.sha.FxShaMac Go.Proofs.Ytomplpdeeomehaa.ac.FxAsC Go.Proofs.Ytomplpdeeomehaa.ac.FxAsM Go.Proofs.Ytomplpdeeomehaa.ac.FxAsA Go.Proofs.Ytomplpdeeomehaa.ac.FxAsQ Go.Proofs.Ytomplpdeeomehaa.rd.FxWireR FxAsX
section
variable {μ : Type} (S : AS μ)
def AS.due : Prop := S.tset = true ∧ ¬ (S.clock - S.moment) % 18446744073709551616 < S.delay
def AS.fired : AS μ := { S with tset := true, moment := S.clock, delay := min (2 * S.delay) 8000, fires := S.fires + 1 }
def AS.over : AS μ := { S with state := 4, tset := false }
def comeAt (q : List (μ × Bool)) (i : Nat) : Bool := ((q[i]?).map (·.2)).getD false
end
def AS.againOut (S : PS) (n : Nat) : List (List UInt8) := ((List.range n).filter fun i => !comeAt S.queue i).map S.dataAt
theorem againOut_s (S : PS) (n : Nat) : S.againOut (n + 1) = S.againOut n ++ if comeAt S.queue n then [] else [S.dataAt n] := by
  unfold AS.againOut
  rw [List.range_succ, List.filter_append, List.map_append]
  congr 1
  cases h : comeAt S.queue n <;> simp [h]
section
variable (b : Nat) (p : AP) (S : AS Msg) (now : Int) (hd : 0 ≤ S.delay ∧ S.delay ≤ 8000)
include hd
theorem Tick_quiet (h : ¬ (S.clocked now).due) (L : List SA) : Fn Try.prog 20 [pt b 0, vI now] (aB b p S :: L) (fun v L' => v = .slice none 0 0 ∧ L' = aB b p (S.clocked now) :: L) := by
  have hm : S.delay % 18446744073709551616 = S.delay := Int.emod_eq_of_lt (by omega) (by omega)
  refine Fn.of (N := 111) Try.func20 rfl rfl ?_
  intro Xh
  refine TC.seq (TC.region ?_)
  refine TL.sg ?_
  refine TL.nil (TQ.next (TC.scope (TC.seq (TC.seq (TC.region ?_)))))
  refine TL.mv ?_
  refine TL.val rfl rfl rfl (by first | exact Y.eqNilP rfl Try.underlying26 rfl rfl | exact Y.eqNil0 rfl Try.underlying26 rfl rfl) ?_
  refine TL.nil (TQ.next ?_)
  refine TC.cond_f rfl ?_
  refine TC.skip (TQ.next (TC.seq (TC.region ?_)))
  refine TL.mv ?_
  refine TL.mv ?_
  refine TL.nc ?_
  refine TL.val rfl rfl rfl (by first | exact Y.fieldAddrJ rfl fo68_11 rfl nqq | exact Y.fieldAddr rfl fo68_11 rfl nqq) ?_
  refine TL.val rfl rfl rfl (Y.load rfl sc2 rfl celN) ?_
  refine TL.as (vI S.clock) (by rfl) ?_
  refine TL.mv ?_
  refine TL.val rfl rfl rfl (Y.maxI rfl rfl rfl) ?_
  refine TL.as (vI (max S.clock now)) (by rfl) ?_
  refine TL.nc ?_
  refine TL.val rfl rfl rfl (by first | exact Y.fieldAddrJ rfl fo68_11 rfl nqq | exact Y.fieldAddr rfl fo68_11 rfl nqq) ?_
  refine TL.eff0 rfl rfl (X.store (cs' := asC p (S.clocked now)) rfl (by kernel_rfl) rfl rfl rfl pul (by show 11 < 17; decide) rfl) ?_
  rintro _ _ rfl
  refine TL.nil (TQ.next (TC.seq (TC.region ?_)))
  refine TL.mv ?_
  refine TL.nc ?_
  refine TL.val rfl rfl rfl (by first | exact Y.fieldAddrJ rfl fo68_12 rfl nqq | exact Y.fieldAddr rfl fo68_12 rfl nqq) ?_
  refine TL.sg ?_
  refine TL.nil (TQ.next (TC.seq (TC.block (TC.seq ?_))))
  refine TC.draws 25 _ (by kernel_rfl) (by kernel_rfl) (fun _ h => h) ?_
  refine TA.tk 0 rfl rfl (Y.move rfl rfl) ?_
  refine TA.tk 1 rfl rfl (Y.nilCheck rfl rfl) ?_
  refine TA.tk 2 rfl rfl (by first | exact Y.fieldAddrJ rfl fo66_0 rfl nqq | exact Y.fieldAddr rfl fo66_0 rfl nqq) ?_
  refine TA.tk 3 rfl rfl (Y.load rfl sc4 rfl celD) ?_
  refine TA.as (vB S.tset) (by rfl) ?_
  refine TA.tk 4 rfl rfl (Y.not rfl rfl) ?_
  refine TA.tk 5 rfl rfl (Y.move rfl rfl) ?_
  refine TA.case (fun g5_5 => ?_) (fun g5_5 => ?_)
  · try simp only [zA, zB, zC, zD, zG, zH, zI, zJ] at g5_5
    refine TA.tn 6 rfl rfl ?_
    refine TA.tn 7 rfl rfl ?_
    refine TA.tn 8 rfl rfl ?_
    refine TA.tn 9 rfl rfl ?_
    refine TA.tn 10 rfl rfl ?_
    refine TA.tn 11 rfl rfl ?_
    refine TA.tn 12 rfl rfl ?_
    refine TA.tn 13 rfl rfl ?_
    refine TA.tn 14 rfl rfl ?_
    refine TA.tn 15 rfl rfl ?_
    refine TA.tn 16 rfl rfl ?_
    refine TA.tn 17 rfl rfl ?_
    refine TA.tn 18 rfl rfl ?_
    refine TA.tn 19 rfl rfl ?_
    refine TA.tn 20 rfl rfl ?_
    refine TA.tn 21 rfl rfl ?_
    refine TA.tn 22 rfl rfl ?_
    refine TA.tk 23 rfl rfl (Y.pick_t rfl rfl rfl) ?_
    refine TA.tk 24 rfl rfl (Y.assign rfl rfl) ?_
    refine TA.done (by kernel_rfl) ?_
    refine TQ.next ?_
    refine TC.cond_t rfl ?_
    refine TC.seq (TC.region ?_)
    refine TL.sg ?_
    refine TL.nil (TQ.next (TC.ret (TQ.block_ret (TQ.then_ret (TQ.scope_ret ?_)))))
    refine TQ.retE (res1 rfl rfl) (⟨rfl, rfl⟩) ?_
    exact ett
  · try simp only [zA, zB, zC, zD, zG, zH, zI, zJ] at g5_5
    refine TA.tk 6 rfl rfl (Y.move rfl rfl) ?_
    refine TA.tk 7 rfl rfl (Y.nilCheck rfl rfl) ?_
    refine TA.tk 8 rfl rfl (by first | exact Y.fieldAddrJ rfl fo68_11 rfl nqq | exact Y.fieldAddr rfl fo68_11 rfl nqq) ?_
    refine TA.tk 9 rfl rfl (Y.load rfl sc2 rfl celN) ?_
    refine TA.as (vI (max S.clock now)) (by rfl) ?_
    refine TA.tk 10 rfl rfl (Y.conv (m := (max S.clock now) % 18446744073709551616) rfl Try.underlying2 Try.underlying32 rfl (wrap_u64 _)) ?_
    refine TA.tk 11 rfl rfl (Y.move rfl rfl) ?_
    refine TA.tk 12 rfl rfl (Y.nilCheck rfl rfl) ?_
    refine TA.tk 13 rfl rfl (by first | exact Y.fieldAddrJ rfl fo66_1 rfl nqq | exact Y.fieldAddr rfl fo66_1 rfl nqq) ?_
    refine TA.tk 14 rfl rfl (Y.load rfl sc2 rfl celN) ?_
    refine TA.as (vI S.moment) (by rfl) ?_
    refine TA.tk 15 rfl rfl (Y.conv (m := S.moment % 18446744073709551616) rfl Try.underlying2 Try.underlying32 rfl (wrap_u64 _)) ?_
    refine TA.tk 16 rfl rfl (Y.bin rfl rfl rfl br_subU) ?_
    refine TA.tk 17 rfl rfl (Y.move rfl rfl) ?_
    refine TA.tk 18 rfl rfl (Y.nilCheck rfl rfl) ?_
    refine TA.tk 19 rfl rfl (by first | exact Y.fieldAddrJ rfl fo66_2 rfl nqq | exact Y.fieldAddr rfl fo66_2 rfl nqq) ?_
    refine TA.tk 20 rfl rfl (Y.load rfl sc2 rfl celN) ?_
    refine TA.as (vI S.delay) (by rfl) ?_
    refine TA.tk 21 rfl rfl (Y.conv (m := S.delay % 18446744073709551616) rfl Try.underlying2 Try.underlying32 rfl (wrap_u64 _)) ?_
    refine TA.tk 22 rfl rfl (Y.bin rfl rfl rfl br_ltI) ?_
    refine TA.is true (by (rw [decide_eq_true_eq, hm]; exact Classical.not_not.1 fun h2 => h ⟨(show S.tset = true by simpa using g5_5), h2⟩)) ?_
    refine TA.tk 23 rfl rfl (Y.pick_f rfl rfl rfl) ?_
    refine TA.tk 24 rfl rfl (Y.assign rfl rfl) ?_
    refine TA.done (by kernel_rfl) ?_
    refine TQ.next ?_
    refine TC.cond_t rfl ?_
    refine TC.seq (TC.region ?_)
    refine TL.sg ?_
    refine TL.nil (TQ.next (TC.ret (TQ.block_ret (TQ.then_ret (TQ.scope_ret ?_)))))
    refine TQ.retE (res1 rfl rfl) (⟨rfl, rfl⟩) ?_
    exact ett
theorem Tick_over (h : (S.clocked now).due) (hf : S.fires = 8) (L : List SA) : Fn Try.prog 20 [pt b 0, vI now] (aB b p S :: L) (fun v L' => v = .slice none 0 0 ∧ L' = aB b p (S.clocked now).over :: L) := by
  have hm : S.delay % 18446744073709551616 = S.delay := Int.emod_eq_of_lt (by omega) (by omega)
  refine Fn.of (N := 111) Try.func20 rfl rfl ?_
  intro Xh
  refine TC.seq (TC.region ?_)
  refine TL.sg ?_
  refine TL.nil (TQ.next (TC.scope (TC.seq (TC.seq (TC.region ?_)))))
  refine TL.mv ?_
  refine TL.val rfl rfl rfl (by first | exact Y.eqNilP rfl Try.underlying26 rfl rfl | exact Y.eqNil0 rfl Try.underlying26 rfl rfl) ?_
  refine TL.nil (TQ.next ?_)
  refine TC.cond_f rfl ?_
  refine TC.skip (TQ.next (TC.seq (TC.region ?_)))
  refine TL.mv ?_
  refine TL.mv ?_
  refine TL.nc ?_
  refine TL.val rfl rfl rfl (by first | exact Y.fieldAddrJ rfl fo68_11 rfl nqq | exact Y.fieldAddr rfl fo68_11 rfl nqq) ?_
  refine TL.val rfl rfl rfl (Y.load rfl sc2 rfl celN) ?_
  refine TL.as (vI S.clock) (by rfl) ?_
  refine TL.mv ?_
  refine TL.val rfl rfl rfl (Y.maxI rfl rfl rfl) ?_
  refine TL.as (vI (max S.clock now)) (by rfl) ?_
  refine TL.nc ?_
  refine TL.val rfl rfl rfl (by first | exact Y.fieldAddrJ rfl fo68_11 rfl nqq | exact Y.fieldAddr rfl fo68_11 rfl nqq) ?_
  refine TL.eff0 rfl rfl (X.store (cs' := asC p (S.clocked now)) rfl (by kernel_rfl) rfl rfl rfl pul (by show 11 < 17; decide) rfl) ?_
  rintro _ _ rfl
  refine TL.nil (TQ.next (TC.seq (TC.region ?_)))
  refine TL.mv ?_
  refine TL.nc ?_
  refine TL.val rfl rfl rfl (by first | exact Y.fieldAddrJ rfl fo68_12 rfl nqq | exact Y.fieldAddr rfl fo68_12 rfl nqq) ?_
  refine TL.sg ?_
  refine TL.nil (TQ.next (TC.seq (TC.block (TC.seq ?_))))
  refine TC.draws 25 _ (by kernel_rfl) (by kernel_rfl) (fun _ h => h) ?_
  refine TA.tk 0 rfl rfl (Y.move rfl rfl) ?_
  refine TA.tk 1 rfl rfl (Y.nilCheck rfl rfl) ?_
  refine TA.tk 2 rfl rfl (by first | exact Y.fieldAddrJ rfl fo66_0 rfl nqq | exact Y.fieldAddr rfl fo66_0 rfl nqq) ?_
  refine TA.tk 3 rfl rfl (Y.load rfl sc4 rfl celD) ?_
  refine TA.as (vB S.tset) (by rfl) ?_
  refine TA.tk 4 rfl rfl (Y.not rfl rfl) ?_
  refine TA.is false (by (rw [show S.tset = true from h.1]; rfl)) ?_
  refine TA.tk 5 rfl rfl (Y.move rfl rfl) ?_
  refine TA.tk 6 rfl rfl (Y.move rfl rfl) ?_
  refine TA.tk 7 rfl rfl (Y.nilCheck rfl rfl) ?_
  refine TA.tk 8 rfl rfl (by first | exact Y.fieldAddrJ rfl fo68_11 rfl nqq | exact Y.fieldAddr rfl fo68_11 rfl nqq) ?_
  refine TA.tk 9 rfl rfl (Y.load rfl sc2 rfl celN) ?_
  refine TA.as (vI (max S.clock now)) (by rfl) ?_
  refine TA.tk 10 rfl rfl (Y.conv (m := (max S.clock now) % 18446744073709551616) rfl Try.underlying2 Try.underlying32 rfl (wrap_u64 _)) ?_
  refine TA.tk 11 rfl rfl (Y.move rfl rfl) ?_
  refine TA.tk 12 rfl rfl (Y.nilCheck rfl rfl) ?_
  refine TA.tk 13 rfl rfl (by first | exact Y.fieldAddrJ rfl fo66_1 rfl nqq | exact Y.fieldAddr rfl fo66_1 rfl nqq) ?_
  refine TA.tk 14 rfl rfl (Y.load rfl sc2 rfl celN) ?_
  refine TA.as (vI S.moment) (by rfl) ?_
  refine TA.tk 15 rfl rfl (Y.conv (m := S.moment % 18446744073709551616) rfl Try.underlying2 Try.underlying32 rfl (wrap_u64 _)) ?_
  refine TA.tk 16 rfl rfl (Y.bin rfl rfl rfl br_subU) ?_
  refine TA.tk 17 rfl rfl (Y.move rfl rfl) ?_
  refine TA.tk 18 rfl rfl (Y.nilCheck rfl rfl) ?_
  refine TA.tk 19 rfl rfl (by first | exact Y.fieldAddrJ rfl fo66_2 rfl nqq | exact Y.fieldAddr rfl fo66_2 rfl nqq) ?_
  refine TA.tk 20 rfl rfl (Y.load rfl sc2 rfl celN) ?_
  refine TA.as (vI S.delay) (by rfl) ?_
  refine TA.tk 21 rfl rfl (Y.conv (m := S.delay % 18446744073709551616) rfl Try.underlying2 Try.underlying32 rfl (wrap_u64 _)) ?_
  refine TA.tk 22 rfl rfl (Y.bin rfl rfl rfl br_ltI) ?_
  refine TA.is false (by (rw [decide_eq_false_iff_not, hm]; exact h.2)) ?_
  refine TA.tk 23 rfl rfl (Y.pick_f rfl rfl rfl) ?_
  refine TA.tk 24 rfl rfl (Y.assign rfl rfl) ?_
  refine TA.done (by kernel_rfl) ?_
  refine TQ.next ?_
  refine TC.cond_f rfl ?_
  refine TC.seq (TC.region ?_)
  refine TL.mv ?_
  refine TL.nc ?_
  refine TL.val rfl rfl rfl (by first | exact Y.fieldAddrJ rfl fo66_3 rfl nqq | exact Y.fieldAddr rfl fo66_3 rfl nqq) ?_
  refine TL.val rfl rfl rfl (Y.load rfl sc3 rfl celN) ?_
  refine TL.as (vN S.fires) (by rfl) ?_
  refine TL.val rfl rfl rfl (Y.bin rfl rfl rfl (br_eqN (n := 8))) ?_
  refine TL.is true (by (simpa using hf)) ?_
  refine TL.sg ?_
  refine TL.nil (TQ.next ?_)
  refine TC.cond_t rfl ?_
  refine TC.seq (TC.region ?_)
  refine TL.mv ?_
  refine TL.mv ?_
  refine TL.nc ?_
  refine TL.val rfl rfl rfl (by first | exact Y.fieldAddrJ rfl fo68_3 rfl nqq | exact Y.fieldAddr rfl fo68_3 rfl nqq) ?_
  refine TL.eff0 rfl rfl (X.store (cs' := asC p { S.clocked now with state := 4 }) rfl (by kernel_rfl) rfl rfl rfl pul (by show 3 < 17; decide) rfl) ?_
  rintro _ _ rfl
  refine TL.nc ?_
  refine TL.val rfl rfl rfl (by first | exact Y.fieldAddrJ rfl fo66_0 rfl nqq | exact Y.fieldAddr rfl fo66_0 rfl nqq) ?_
  refine TL.eff0 rfl rfl (X.store (cs' := asC p (S.clocked now).over) rfl (by kernel_rfl) rfl rfl rfl pul (by show 12 < 17; decide) rfl) ?_
  rintro _ _ rfl
  refine TL.nil (TQ.next (TC.seq (TC.region ?_)))
  refine TL.sg ?_
  refine TL.nil (TQ.next (TC.ret (TQ.block_ret (TQ.then_ret (TQ.scope_ret ?_)))))
  refine TQ.retE (res1 rfl rfl) (⟨rfl, rfl⟩) ?_
  exact ett
theorem Tick_shake (h : (S.clocked now).due) (hf : S.fires ≠ 8) (hf9 : S.fires ≤ 8) (h3 : S.state ≠ 3) (hsk : S.shake.length ≤ 1000) (L : List SA) : Fn Try.prog 20 [pt b 0, vI now] (aB b p S :: aH p S :: L)
    (fun v L' => ∃ o : Sl Bs, v = o.v ∧ o.l.map (·.l) = [S.shake] ∧ L' = SA.dat o :: aB b p (S.clocked now).fired :: aH p S :: L) := by
  have hm : S.delay % 18446744073709551616 = S.delay := Int.emod_eq_of_lt (by omega) (by omega)
  refine Fn.of (N := 111) Try.func20 rfl rfl ?_
  intro Xh
  refine TC.seq (TC.region ?_)
  refine TL.sg ?_
  refine TL.nil (TQ.next (TC.scope (TC.seq (TC.seq (TC.region ?_)))))
  refine TL.mv ?_
  refine TL.val rfl rfl rfl (by first | exact Y.eqNilP rfl Try.underlying26 rfl rfl | exact Y.eqNil0 rfl Try.underlying26 rfl rfl) ?_
  refine TL.nil (TQ.next ?_)
  refine TC.cond_f rfl ?_
  refine TC.skip (TQ.next (TC.seq (TC.region ?_)))
  refine TL.mv ?_
  refine TL.mv ?_
  refine TL.nc ?_
  refine TL.val rfl rfl rfl (by first | exact Y.fieldAddrJ rfl fo68_11 rfl nqq | exact Y.fieldAddr rfl fo68_11 rfl nqq) ?_
  refine TL.val rfl rfl rfl (Y.load rfl sc2 rfl celN) ?_
  refine TL.as (vI S.clock) (by rfl) ?_
  refine TL.mv ?_
  refine TL.val rfl rfl rfl (Y.maxI rfl rfl rfl) ?_
  refine TL.as (vI (max S.clock now)) (by rfl) ?_
  refine TL.nc ?_
  refine TL.val rfl rfl rfl (by first | exact Y.fieldAddrJ rfl fo68_11 rfl nqq | exact Y.fieldAddr rfl fo68_11 rfl nqq) ?_
  refine TL.eff0 rfl rfl (X.store (cs' := asC p (S.clocked now)) rfl (by kernel_rfl) rfl rfl rfl pul (by show 11 < 17; decide) rfl) ?_
  rintro _ _ rfl
  refine TL.nil (TQ.next (TC.seq (TC.region ?_)))
  refine TL.mv ?_
  refine TL.nc ?_
  refine TL.val rfl rfl rfl (by first | exact Y.fieldAddrJ rfl fo68_12 rfl nqq | exact Y.fieldAddr rfl fo68_12 rfl nqq) ?_
  refine TL.sg ?_
  refine TL.nil (TQ.next (TC.seq (TC.block (TC.seq ?_))))
  refine TC.draws 25 _ (by kernel_rfl) (by kernel_rfl) (fun _ h => h) ?_
  refine TA.tk 0 rfl rfl (Y.move rfl rfl) ?_
  refine TA.tk 1 rfl rfl (Y.nilCheck rfl rfl) ?_
  refine TA.tk 2 rfl rfl (by first | exact Y.fieldAddrJ rfl fo66_0 rfl nqq | exact Y.fieldAddr rfl fo66_0 rfl nqq) ?_
  refine TA.tk 3 rfl rfl (Y.load rfl sc4 rfl celD) ?_
  refine TA.as (vB S.tset) (by rfl) ?_
  refine TA.tk 4 rfl rfl (Y.not rfl rfl) ?_
  refine TA.is false (by (rw [show S.tset = true from h.1]; rfl)) ?_
  refine TA.tk 5 rfl rfl (Y.move rfl rfl) ?_
  refine TA.tk 6 rfl rfl (Y.move rfl rfl) ?_
  refine TA.tk 7 rfl rfl (Y.nilCheck rfl rfl) ?_
  refine TA.tk 8 rfl rfl (by first | exact Y.fieldAddrJ rfl fo68_11 rfl nqq | exact Y.fieldAddr rfl fo68_11 rfl nqq) ?_
  refine TA.tk 9 rfl rfl (Y.load rfl sc2 rfl celN) ?_
  refine TA.as (vI (max S.clock now)) (by rfl) ?_
  refine TA.tk 10 rfl rfl (Y.conv (m := (max S.clock now) % 18446744073709551616) rfl Try.underlying2 Try.underlying32 rfl (wrap_u64 _)) ?_
  refine TA.tk 11 rfl rfl (Y.move rfl rfl) ?_
  refine TA.tk 12 rfl rfl (Y.nilCheck rfl rfl) ?_
  refine TA.tk 13 rfl rfl (by first | exact Y.fieldAddrJ rfl fo66_1 rfl nqq | exact Y.fieldAddr rfl fo66_1 rfl nqq) ?_
  refine TA.tk 14 rfl rfl (Y.load rfl sc2 rfl celN) ?_
  refine TA.as (vI S.moment) (by rfl) ?_
  refine TA.tk 15 rfl rfl (Y.conv (m := S.moment % 18446744073709551616) rfl Try.underlying2 Try.underlying32 rfl (wrap_u64 _)) ?_
  refine TA.tk 16 rfl rfl (Y.bin rfl rfl rfl br_subU) ?_
  refine TA.tk 17 rfl rfl (Y.move rfl rfl) ?_
  refine TA.tk 18 rfl rfl (Y.nilCheck rfl rfl) ?_
  refine TA.tk 19 rfl rfl (by first | exact Y.fieldAddrJ rfl fo66_2 rfl nqq | exact Y.fieldAddr rfl fo66_2 rfl nqq) ?_
  refine TA.tk 20 rfl rfl (Y.load rfl sc2 rfl celN) ?_
  refine TA.as (vI S.delay) (by rfl) ?_
  refine TA.tk 21 rfl rfl (Y.conv (m := S.delay % 18446744073709551616) rfl Try.underlying2 Try.underlying32 rfl (wrap_u64 _)) ?_
  refine TA.tk 22 rfl rfl (Y.bin rfl rfl rfl br_ltI) ?_
  refine TA.is false (by (rw [decide_eq_false_iff_not, hm]; exact h.2)) ?_
  refine TA.tk 23 rfl rfl (Y.pick_f rfl rfl rfl) ?_
  refine TA.tk 24 rfl rfl (Y.assign rfl rfl) ?_
  refine TA.done (by kernel_rfl) ?_
  refine TQ.next ?_
  refine TC.cond_f rfl ?_
  refine TC.seq (TC.region ?_)
  refine TL.mv ?_
  refine TL.nc ?_
  refine TL.val rfl rfl rfl (by first | exact Y.fieldAddrJ rfl fo66_3 rfl nqq | exact Y.fieldAddr rfl fo66_3 rfl nqq) ?_
  refine TL.val rfl rfl rfl (Y.load rfl sc3 rfl celN) ?_
  refine TL.as (vN S.fires) (by rfl) ?_
  refine TL.val rfl rfl rfl (Y.bin rfl rfl rfl (br_eqN (n := 8))) ?_
  refine TL.is false (by (simpa using hf)) ?_
  refine TL.sg ?_
  refine TL.nil (TQ.next ?_)
  refine TC.cond_f rfl ?_
  refine TC.skip (TQ.block_normal (TQ.next (TC.seq ?_)))
  refine TC.draws 18 _ (by kernel_rfl) (by kernel_rfl) (fun _ h => h) ?_
  refine TA.tk 0 rfl rfl (Y.move rfl rfl) ?_
  refine TA.tk 1 rfl rfl (Y.move rfl rfl) ?_
  refine TA.tk 2 rfl rfl (Y.nilCheck rfl rfl) ?_
  refine TA.tk 3 rfl rfl (by first | exact Y.fieldAddrJ rfl fo68_11 rfl nqq | exact Y.fieldAddr rfl fo68_11 rfl nqq) ?_
  refine TA.tk 4 rfl rfl (Y.load rfl sc2 rfl celN) ?_
  refine TA.as (vI (max S.clock now)) (by rfl) ?_
  refine TA.tk 5 rfl rfl (Y.move rfl rfl) ?_
  refine TA.tk 6 rfl rfl (Y.nilCheck rfl rfl) ?_
  refine TA.tk 7 rfl rfl (by first | exact Y.fieldAddrJ rfl fo66_2 rfl nqq | exact Y.fieldAddr rfl fo66_2 rfl nqq) ?_
  refine TA.tk 8 rfl rfl (Y.load rfl sc2 rfl celN) ?_
  refine TA.as (vI S.delay) (by rfl) ?_
  refine TA.tk 9 rfl rfl (Y.bin rfl rfl rfl (br_mulI (m := 2) (n := S.delay) (by omega) (by omega))) ?_
  refine TA.tk 10 rfl rfl (Y.minI (n := 8000) rfl rfl rfl) ?_
  refine TA.as (vI (min (2 * S.delay) 8000)) (by rfl) ?_
  refine TA.tk 11 rfl rfl (Y.move rfl rfl) ?_
  refine TA.tk 12 rfl rfl (Y.nilCheck rfl rfl) ?_
  refine TA.tk 13 rfl rfl (by first | exact Y.fieldAddrJ rfl fo66_3 rfl nqq | exact Y.fieldAddr rfl fo66_3 rfl nqq) ?_
  refine TA.tk 14 rfl rfl (Y.load rfl sc3 rfl celN) ?_
  refine TA.as (vN S.fires) (by rfl) ?_
  refine TA.tk 15 rfl rfl (Y.bin rfl rfl rfl (br_addN (n := 1) (by omega))) ?_
  refine TA.tk 16 rfl rfl (Y.buildS (cells := #[vB true, vI (max S.clock now), vI (min (2 * S.delay) 8000), vN (S.fires + 1)]) rfl rfl pl66 zc66 (by kernel_rfl)) ?_
  refine TA.tk 17 rfl rfl (Y.nilCheck rfl rfl) ?_
  refine TA.one0 18 (by kernel_rfl) rfl rfl rfl (X.storeAgg (cs' := asC p (S.clocked now).fired) rfl (by kernel_rfl) rfl rfl rfl (allOne (by rfl)) pul (by show 12 + 4 ≤ 17; decide) rfl) ?_
  rintro _ _ rfl
  refine ⟨(Or.inl (by kernel_rfl)), ?_⟩
  refine TA.done (by kernel_rfl) ?_
  refine TQ.next (TC.seq (TC.seq (TC.region ?_)))
  refine TL.mv ?_
  refine TL.nc ?_
  refine TL.val rfl rfl rfl (by first | exact Y.fieldAddrJ rfl fo68_3 rfl nqq | exact Y.fieldAddr rfl fo68_3 rfl nqq) ?_
  refine TL.val rfl rfl rfl (Y.load rfl sc3 rfl celN) ?_
  refine TL.as (vN S.state) (by rfl) ?_
  refine TL.val rfl rfl rfl (Y.bin rfl rfl rfl (br_neN (n := 3))) ?_
  refine TL.is true (by (simpa using h3)) ?_
  refine TL.nil (TQ.next ?_)
  refine TC.cond_t rfl ?_
  refine TC.seq (TC.region ?_)
  refine TL.mv ?_
  refine TL.nc ?_
  refine TL.val rfl rfl rfl (by first | exact Y.fieldAddrJ rfl fo68_13 rfl nqq | exact Y.fieldAddr rfl fo68_13 rfl nqq) ?_
  refine TL.val rfl rfl rfl (Y.load rfl sc23 rfl celD) ?_
  refine TL.as (.slice p.ha S.shake.length p.hc) (by rfl) ?_
  refine TL.eff rfl rfl rfl (X.cl rfl Try.func25 rfl (h := (rd.Clone_fn _ _ _ S.shake rfl (by omega) _))) ?_
  rintro _ _ ⟨a86, c86, rfl, rfl⟩
  refine TL.eff rfl rfl rfl (X.lit rfl el24 rfl rfl rfl (by decide) rfl) ?_
  rintro _ _ ⟨g87, rfl, rfl⟩
  refine TL.sg ?_
  refine TL.nil (TQ.next (TC.ret (TQ.then_ret (TQ.scope_ret ?_))))
  refine TQ.retE (res1 rfl rfl) (⟨⟨some ⟨g87, 0, none⟩, 1, [⟨a86, c86, S.shake⟩]⟩, rfl, rfl, rfl⟩) ?_
  exact (Ent.trans (Ent.one1 (a := a86) (g := g87) (l := S.shake) pul pul rfl) ett)
set_option maxHeartbeats 2000000 in
theorem Tick_again (h : (S.clocked now).due) (hf : S.fires ≠ 8) (hf9 : S.fires ≤ 8) (h3 : S.state = 3) (hsh : Short S) (hs : S.sent ≤ S.queue.length) (h16 : S.sent ≤ 16) (L : List SA) : Fn Try.prog 20 [pt b 0, vI now] (aB b p S :: aQ p S :: aD S :: L)
    (fun v L' => ∃ o : Sl Bs, v = o.v ∧ o.l.map (·.l) = (abs S).againOut S.sent ∧ L' = SA.dat o :: aB b p (S.clocked now).fired :: aQ p S :: aD S :: L) := by
  have hm : S.delay % 18446744073709551616 = S.delay := Int.emod_eq_of_lt (by omega) (by omega)
  refine Fn.of (N := 111) Try.func20 rfl rfl ?_
  intro Xh
  refine TC.seq (TC.region ?_)
  refine TL.sg ?_
  refine TL.nil (TQ.next (TC.scope (TC.seq (TC.seq (TC.region ?_)))))
  refine TL.mv ?_
  refine TL.val rfl rfl rfl (by first | exact Y.eqNilP rfl Try.underlying26 rfl rfl | exact Y.eqNil0 rfl Try.underlying26 rfl rfl) ?_
  refine TL.nil (TQ.next ?_)
  refine TC.cond_f rfl ?_
  refine TC.skip (TQ.next (TC.seq (TC.region ?_)))
  refine TL.mv ?_
  refine TL.mv ?_
  refine TL.nc ?_
  refine TL.val rfl rfl rfl (by first | exact Y.fieldAddrJ rfl fo68_11 rfl nqq | exact Y.fieldAddr rfl fo68_11 rfl nqq) ?_
  refine TL.val rfl rfl rfl (Y.load rfl sc2 rfl celN) ?_
  refine TL.as (vI S.clock) (by rfl) ?_
  refine TL.mv ?_
  refine TL.val rfl rfl rfl (Y.maxI rfl rfl rfl) ?_
  refine TL.as (vI (max S.clock now)) (by rfl) ?_
  refine TL.nc ?_
  refine TL.val rfl rfl rfl (by first | exact Y.fieldAddrJ rfl fo68_11 rfl nqq | exact Y.fieldAddr rfl fo68_11 rfl nqq) ?_
  refine TL.eff0 rfl rfl (X.store (cs' := asC p (S.clocked now)) rfl (by kernel_rfl) rfl rfl rfl pul (by show 11 < 17; decide) rfl) ?_
  rintro _ _ rfl
  refine TL.nil (TQ.next (TC.seq (TC.region ?_)))
  refine TL.mv ?_
  refine TL.nc ?_
  refine TL.val rfl rfl rfl (by first | exact Y.fieldAddrJ rfl fo68_12 rfl nqq | exact Y.fieldAddr rfl fo68_12 rfl nqq) ?_
  refine TL.sg ?_
  refine TL.nil (TQ.next (TC.seq (TC.block (TC.seq ?_))))
  refine TC.draws 25 _ (by kernel_rfl) (by kernel_rfl) (fun _ h => h) ?_
  refine TA.tk 0 rfl rfl (Y.move rfl rfl) ?_
  refine TA.tk 1 rfl rfl (Y.nilCheck rfl rfl) ?_
  refine TA.tk 2 rfl rfl (by first | exact Y.fieldAddrJ rfl fo66_0 rfl nqq | exact Y.fieldAddr rfl fo66_0 rfl nqq) ?_
  refine TA.tk 3 rfl rfl (Y.load rfl sc4 rfl celD) ?_
  refine TA.as (vB S.tset) (by rfl) ?_
  refine TA.tk 4 rfl rfl (Y.not rfl rfl) ?_
  refine TA.is false (by (rw [show S.tset = true from h.1]; rfl)) ?_
  refine TA.tk 5 rfl rfl (Y.move rfl rfl) ?_
  refine TA.tk 6 rfl rfl (Y.move rfl rfl) ?_
  refine TA.tk 7 rfl rfl (Y.nilCheck rfl rfl) ?_
  refine TA.tk 8 rfl rfl (by first | exact Y.fieldAddrJ rfl fo68_11 rfl nqq | exact Y.fieldAddr rfl fo68_11 rfl nqq) ?_
  refine TA.tk 9 rfl rfl (Y.load rfl sc2 rfl celN) ?_
  refine TA.as (vI (max S.clock now)) (by rfl) ?_
  refine TA.tk 10 rfl rfl (Y.conv (m := (max S.clock now) % 18446744073709551616) rfl Try.underlying2 Try.underlying32 rfl (wrap_u64 _)) ?_
  refine TA.tk 11 rfl rfl (Y.move rfl rfl) ?_
  refine TA.tk 12 rfl rfl (Y.nilCheck rfl rfl) ?_
  refine TA.tk 13 rfl rfl (by first | exact Y.fieldAddrJ rfl fo66_1 rfl nqq | exact Y.fieldAddr rfl fo66_1 rfl nqq) ?_
  refine TA.tk 14 rfl rfl (Y.load rfl sc2 rfl celN) ?_
  refine TA.as (vI S.moment) (by rfl) ?_
  refine TA.tk 15 rfl rfl (Y.conv (m := S.moment % 18446744073709551616) rfl Try.underlying2 Try.underlying32 rfl (wrap_u64 _)) ?_
  refine TA.tk 16 rfl rfl (Y.bin rfl rfl rfl br_subU) ?_
  refine TA.tk 17 rfl rfl (Y.move rfl rfl) ?_
  refine TA.tk 18 rfl rfl (Y.nilCheck rfl rfl) ?_
  refine TA.tk 19 rfl rfl (by first | exact Y.fieldAddrJ rfl fo66_2 rfl nqq | exact Y.fieldAddr rfl fo66_2 rfl nqq) ?_
  refine TA.tk 20 rfl rfl (Y.load rfl sc2 rfl celN) ?_
  refine TA.as (vI S.delay) (by rfl) ?_
  refine TA.tk 21 rfl rfl (Y.conv (m := S.delay % 18446744073709551616) rfl Try.underlying2 Try.underlying32 rfl (wrap_u64 _)) ?_
  refine TA.tk 22 rfl rfl (Y.bin rfl rfl rfl br_ltI) ?_
  refine TA.is false (by (rw [decide_eq_false_iff_not, hm]; exact h.2)) ?_
  refine TA.tk 23 rfl rfl (Y.pick_f rfl rfl rfl) ?_
  refine TA.tk 24 rfl rfl (Y.assign rfl rfl) ?_
  refine TA.done (by kernel_rfl) ?_
  refine TQ.next ?_
  refine TC.cond_f rfl ?_
  refine TC.seq (TC.region ?_)
  refine TL.mv ?_
  refine TL.nc ?_
  refine TL.val rfl rfl rfl (by first | exact Y.fieldAddrJ rfl fo66_3 rfl nqq | exact Y.fieldAddr rfl fo66_3 rfl nqq) ?_
  refine TL.val rfl rfl rfl (Y.load rfl sc3 rfl celN) ?_
  refine TL.as (vN S.fires) (by rfl) ?_
  refine TL.val rfl rfl rfl (Y.bin rfl rfl rfl (br_eqN (n := 8))) ?_
  refine TL.is false (by (simpa using hf)) ?_
  refine TL.sg ?_
  refine TL.nil (TQ.next ?_)
  refine TC.cond_f rfl ?_
  refine TC.skip (TQ.block_normal (TQ.next (TC.seq ?_)))
  refine TC.draws 18 _ (by kernel_rfl) (by kernel_rfl) (fun _ h => h) ?_
  refine TA.tk 0 rfl rfl (Y.move rfl rfl) ?_
  refine TA.tk 1 rfl rfl (Y.move rfl rfl) ?_
  refine TA.tk 2 rfl rfl (Y.nilCheck rfl rfl) ?_
  refine TA.tk 3 rfl rfl (by first | exact Y.fieldAddrJ rfl fo68_11 rfl nqq | exact Y.fieldAddr rfl fo68_11 rfl nqq) ?_
  refine TA.tk 4 rfl rfl (Y.load rfl sc2 rfl celN) ?_
  refine TA.as (vI (max S.clock now)) (by rfl) ?_
  refine TA.tk 5 rfl rfl (Y.move rfl rfl) ?_
  refine TA.tk 6 rfl rfl (Y.nilCheck rfl rfl) ?_
  refine TA.tk 7 rfl rfl (by first | exact Y.fieldAddrJ rfl fo66_2 rfl nqq | exact Y.fieldAddr rfl fo66_2 rfl nqq) ?_
  refine TA.tk 8 rfl rfl (Y.load rfl sc2 rfl celN) ?_
  refine TA.as (vI S.delay) (by rfl) ?_
  refine TA.tk 9 rfl rfl (Y.bin rfl rfl rfl (br_mulI (m := 2) (n := S.delay) (by omega) (by omega))) ?_
  refine TA.tk 10 rfl rfl (Y.minI (n := 8000) rfl rfl rfl) ?_
  refine TA.as (vI (min (2 * S.delay) 8000)) (by rfl) ?_
  refine TA.tk 11 rfl rfl (Y.move rfl rfl) ?_
  refine TA.tk 12 rfl rfl (Y.nilCheck rfl rfl) ?_
  refine TA.tk 13 rfl rfl (by first | exact Y.fieldAddrJ rfl fo66_3 rfl nqq | exact Y.fieldAddr rfl fo66_3 rfl nqq) ?_
  refine TA.tk 14 rfl rfl (Y.load rfl sc3 rfl celN) ?_
  refine TA.as (vN S.fires) (by rfl) ?_
  refine TA.tk 15 rfl rfl (Y.bin rfl rfl rfl (br_addN (n := 1) (by omega))) ?_
  refine TA.tk 16 rfl rfl (Y.buildS (cells := #[vB true, vI (max S.clock now), vI (min (2 * S.delay) 8000), vN (S.fires + 1)]) rfl rfl pl66 zc66 (by kernel_rfl)) ?_
  refine TA.tk 17 rfl rfl (Y.nilCheck rfl rfl) ?_
  refine TA.one0 18 (by kernel_rfl) rfl rfl rfl (X.storeAgg (cs' := asC p (S.clocked now).fired) rfl (by kernel_rfl) rfl rfl rfl (allOne (by rfl)) pul (by show 12 + 4 ≤ 17; decide) rfl) ?_
  rintro _ _ rfl
  refine ⟨(Or.inl (by kernel_rfl)), ?_⟩
  refine TA.done (by kernel_rfl) ?_
  refine TQ.next (TC.seq (TC.seq (TC.region ?_)))
  refine TL.mv ?_
  refine TL.nc ?_
  refine TL.val rfl rfl rfl (by first | exact Y.fieldAddrJ rfl fo68_3 rfl nqq | exact Y.fieldAddr rfl fo68_3 rfl nqq) ?_
  refine TL.val rfl rfl rfl (Y.load rfl sc3 rfl celN) ?_
  refine TL.as (vN S.state) (by rfl) ?_
  refine TL.val rfl rfl rfl (Y.bin rfl rfl rfl (br_neN (n := 3))) ?_
  refine TL.is false (by (simpa using h3)) ?_
  refine TL.nil (TQ.next ?_)
  refine TC.cond_f rfl ?_
  refine TC.skip (TQ.next (TC.seq (TC.region ?_)))
  refine TL.sg ?_
  refine TL.nil (TQ.next (TC.seq ?_))
  refine TC.label ?_
  refine TQ.next (TC.seq (TC.seq ?_))
  obtain ⟨S1, hS1⟩ : ∃ S1 : AS Msg, S1 = (S.clocked now).fired := ⟨_, rfl⟩
  have hq1 : S.queue = S1.queue := by rw [hS1]; rfl
  have hn1 : S1.sent = S.sent := by rw [hS1]; rfl
  have hsh1 : Short S1 := ⟨fun x hx => hsh.queue x (by rw [hq1]; exact hx)⟩
  have hda : ∀ i, (abs S1).dataAt i = (abs S).dataAt i := fun i => by rw [hS1]; rfl
  rw [← hS1, show aQ p S = aQ p S1 by simp only [aQ, hq1], show aD S = aD S1 by simp only [aD, hq1], ← hn1]
  refine TC.region ?_
  refine TL.mv ?_
  refine TL.nc ?_
  refine TL.val rfl rfl rfl (by first | exact Y.fieldAddrJ rfl fo68_10 rfl nqq | exact Y.fieldAddr rfl fo68_10 rfl nqq) ?_
  refine TL.val rfl rfl rfl (Y.load rfl sc3 rfl celN) ?_
  refine TL.as (vN S1.sent) (by rfl) ?_
  refine TL.mv ?_
  refine TL.nil (TQ.next (TC.block ?_))
  refine TC.to (Ent.trans (Ent.nilOwn 23 1) Ent.rdss0) ?_
  refine TC.loopF (ι := Nat × Option Addr × Nat × List Bs) [] (fun i => i.1 ≤ S1.sent ∧ i.2.2.2.map (·.l) = (abs S).againOut i.1 ∧ i.2.2.2.length ≤ i.1) (fun i => [(92, some (vN i.1)), (6, some (.slice i.2.1 i.2.2.2.length i.2.2.1))]) (fun i => [SA.owns 23 1 (.slice i.2.1 i.2.2.2.length i.2.2.1) i.2.2.2.length (Dat.cs i.2.2.2), SA.rdss (i.2.2.2.flatMap Dat.g)]) (fun i => S1.sent - i.1) ((0, none, 0, [])) (⟨Nat.zero_le _, rfl, Nat.le_refl _⟩) ⟨rfl, rfl, trivial⟩ (Pulls.cons pul (Pulls.cons pul Pulls.nil)) ?_
  rintro ⟨k, ga, gc, out⟩ ⟨hk, ho, hol⟩ F' L' rfl hL'
  simp only [List.cons_append, List.nil_append] at hL'
  subst hL'
  simp only at hk ho hol ⊢
  refine TC.seq (TC.region ?_)
  refine TL.val rfl rfl rfl (Y.bin rfl rfl rfl (br_ltN)) ?_
  refine TL.nil (TQ.next (TC.seq ?_))
  refine TC.cond rfl (fun c4 => ?_) (fun c4 => ?_)
  · try simp only [zA, zB, zC, zD, zE, zF, zG, zH, zI, zJ] at c4
    refine TC.skip (TQ.next (TC.seq (TC.block (TC.seq (TC.region ?_)))))
    refine TL.mv ?_
    refine TL.sg ?_
    refine TL.nil (TQ.next (TC.seq (TC.seq ?_)))
    have hkq : k < S1.queue.length := by rw [← hq1]; omega
    obtain ⟨⟨⟨st, kd, bs⟩, co⟩, hx, hxm⟩ := getS (l := S1.queue) (i := k) hkq
    refine TC.know (owns_some (a := p.qa) (n := S1.queue.length) inn (by omega)) ?_
    rintro ⟨g, off, hqa⟩
    have hc : comeAt (abs S).queue k = co := by
      show (((S.queue.map fun x => (pm x.1, x.2))[k]?).map (·.2)).getD false = co
      rw [List.getElem?_map, hq1, hx]; rfl
    have hnx := againOut_s (abs S) k
    rw [hc] at hnx
    refine TC.region ?_
    refine TL.mv ?_
    refine TL.nc ?_
    refine TL.val rfl rfl rfl (by first | exact Y.fieldAddrJ rfl fo68_9 rfl nqq | exact Y.fieldAddr rfl fo68_9 rfl nqq) ?_
    refine TL.val rfl rfl rfl (Y.load rfl sc64 rfl celD) ?_
    refine TL.as (.slice (some ⟨g, off, none⟩) S1.queue.length p.qc) (by (rw [← hqa]; rfl)) ?_
    refine TL.mv ?_
    refine TL.val rfl rfl rfl (by first | exact Y.indexSlB rfl sl64 rfl rfl (by omega) nqq | exact Y.indexSl rfl sl64 rfl rfl (by omega) nqq) ?_
    refine TL.val rfl rfl rfl (by first | exact Y.fieldAddrJ rfl fo82_1 rfl nqq | exact Y.fieldAddr rfl fo82_1 rfl nqq) ?_
    refine TL.val rfl rfl rfl (Y.load rfl sc4 rfl (Cel.at (A := SA.owns 82 4 (.slice (some ⟨g, off, none⟩) S1.queue.length p.qc) S1.queue.length (Dat.cs S1.queue)) (k := 3) Reads.owns (by rw [← hqa]; exact inn) hx rfl)) ?_
    refine TL.as (.bool co) (by rfl) ?_
    refine TL.nil (TQ.next ?_)
    refine TC.cond rfl (fun c5 => ?_) (fun c5 => ?_)
    · try simp only [zA, zB, zC, zD, zE, zF, zG, zH, zI, zJ] at c5
      refine TC.exit (TQ.then_exit (TQ.block_exit (TQ.next (TC.region ?_))))
      refine TL.val rfl rfl rfl (Y.bin rfl rfl rfl (br_addN (n := 1) (by omega))) ?_
      refine TL.mv ?_
      refine TL.nil ?_
      refine TQ.loopF ((by first | (have := da; exact (k + 1, a108, c108, out ++ [⟨da, dc, D⟩])) | exact (k + 1, ga, gc, out))) ((by first | exact ⟨by show k + 1 ≤ _; omega, by show (out ++ [(⟨da, dc, D⟩ : Bs)]).map (·.l) = _; rw [hnx, List.map_append, ho]; simp_all, by show (out ++ [(⟨da, dc, D⟩ : Bs)]).length ≤ k + 1; rw [List.length_append]; show out.length + 1 ≤ _; omega⟩ | exact ⟨by show k + 1 ≤ _; omega, by rw [hnx, ho]; simp_all, by show out.length ≤ k + 1; omega⟩)) (by show S1.sent - (k + 1) < S1.sent - k; omega) ⟨rfl, rfl, trivial⟩ grw ?_ ?_ ?_
      · kernel_rfl
      · rfl
      · simp only [List.cons_append, List.nil_append]
        exact ett
    · try simp only [zA, zB, zC, zD, zE, zF, zG, zH, zI, zJ] at c5
      refine TC.skip (TQ.next (TC.region ?_))
      refine TL.mv ?_
      refine TL.mv ?_
      refine TL.mv ?_
      refine TL.eff rfl rfl rfl (X.cl rfl Try.func43 rfl (h := (data_fn b p S1 k st kd bs co hx (Nat.le_trans (hsh1.queue _ hxm) (by decide)) _))) ?_
      rintro _ _ ⟨da, dc, rfl, rfl⟩
      have hD0 := dataAt_of hx
      rw [hda] at hD0
      generalize dataB S1.other (S1.base + UInt32.ofNat k) (st, kd, bs.l) = D at hD0 ⊢
      refine TL.eff rfl rfl rfl (X.lit rfl el24 rfl rfl rfl (by decide) rfl) ?_
      rintro _ _ ⟨g107, rfl, rfl⟩
      refine TL.eff rfl rfl rfl (X.appendS rfl el24 rfl pul rfl (by first | exact Src.owns Try.underlying24 inn | exact Src.rds Try.underlying24 inn | exact Src.reads (by assumption) Try.underlying24 inn) (by simp only [maxLen]; omega) (by omega)) ?_
      rintro _ _ ⟨a108, c108, rfl, rfl⟩
      refine TL.sg ?_
      refine TL.nil ?_
      refine TQ.to ((Pull.ent (A := SA.owns 5 1 (.slice da D.length dc) D.length (D.map v8)) pul).trans (Ent.freeze.trans (Ent.mkBytes rfl))) ?_
      refine TQ.to (Ent.addEl (x := (⟨da, dc, D⟩ : Bs)) (ys := out) pul pul) ?_
      rw [cs_snoc out da dc D, show out.length + 1 = (out ++ [(⟨da, dc, D⟩ : Bs)]).length by simp]
      refine TQ.block_normal (TQ.next (TC.region ?_))
      refine TL.val rfl rfl rfl (Y.bin rfl rfl rfl (br_addN (n := 1) (by omega))) ?_
      refine TL.mv ?_
      refine TL.nil ?_
      refine TQ.loopF ((by first | (have := da; exact (k + 1, a108, c108, out ++ [⟨da, dc, D⟩])) | exact (k + 1, ga, gc, out))) ((by first | exact ⟨by show k + 1 ≤ _; omega, by show (out ++ [(⟨da, dc, D⟩ : Bs)]).map (·.l) = _; rw [hnx, List.map_append, ho]; simp_all, by show (out ++ [(⟨da, dc, D⟩ : Bs)]).length ≤ k + 1; rw [List.length_append]; show out.length + 1 ≤ _; omega⟩ | exact ⟨by show k + 1 ≤ _; omega, by rw [hnx, ho]; simp_all, by show out.length ≤ k + 1; omega⟩)) (by show S1.sent - (k + 1) < S1.sent - k; omega) ⟨rfl, rfl, trivial⟩ grw ?_ ?_ ?_
      · kernel_rfl
      · rfl
      · simp only [List.cons_append, List.nil_append]
        exact ett
  · try simp only [zA, zB, zC, zD, zE, zF, zG, zH, zI, zJ] at c4
    obtain rfl : k = S1.sent := by omega
    refine TC.exit (TQ.then_exit (TQ.then_exit (TQ.block_exit (TQ.next (TC.seq (TC.region ?_))))))
    refine TL.mv ?_
    refine TL.sg ?_
    refine TL.nil (TQ.next (TC.ret (TQ.scope_ret ?_)))
    refine TQ.retE (res1 rfl rfl) (⟨⟨ga, gc, out⟩, rfl, ho, rfl⟩) ?_
    exact (Ent.trans (Ent.mkOwn (a := ga) (l := out) pul pul rfl rfl rfl) ett)
end
end ac
end Go.Proofs.Ytomplpdeeomehaa


/- assoc: Send and Tick of a whole side. -/
namespace Go.Proofs.Ytomplpdeeomehaa
set_option linter.unusedVariables false
set_option linter.unusedSimpArgs false
open Go.RowKit
namespace ac
open wr (be16 be32)
open rd (num)
--FACTS
def AS.sendP (S : PS) (m : PM) (now : Int) : PS × List (List UInt8) × Nat :=
  if S.state ≠ 3 then (S, [], 9) else if 1024 < m.2.2.length then (S, [], 3) else if S.queue.length = 32 then (S, [], 6)
  else ((S.taken m now).more, (S.taken m now).moreOut, 0)
open Classical in
noncomputable def AS.tickP (S : PS) (now : Int) : PS × List (List UInt8) :=
  if ¬ (S.clocked now).due then (S.clocked now, [])
  else if S.fires = 8 then ((S.clocked now).over, [])
  else if S.state ≠ 3 then ((S.clocked now).fired, [S.shake])
  else ((S.clocked now).fired, S.againOut S.sent)
theorem taken_same {μ : Type} (S : AS μ) (m : μ) (now : Int) : (S.taken m now).secret = S.secret ∧ (S.taken m now).kept = S.kept ∧ (S.taken m now).shake = S.shake := ⟨rfl, rfl, rfl⟩
section
variable (b : Nat) (S : PS) (hI : InvP S)
include hI
theorem Send_fn (st : UInt16) (kd : UInt32) (ma : Option Addr) (mn mc : Nat) (ml : List UInt8) (hn : ml.length = mn) (hl : mn ≤ 140737488351232) (now : Int) (L : List SA) :
    Fn Try.prog 19 [pt b 0, .agg (msC st kd (.slice ma mn mc)), vI now] (SD b S :: SA.rds 1 (.slice ma mn mc) mn (ml.map v8) :: L)
      (fun v L' => ∃ o : Sl Bs, v = .tuple #[o.v, vN (S.sendP (st, kd, ml) now).2.2] ∧ o.l.map (·.l) = (S.sendP (st, kd, ml) now).2.1 ∧ L' = SA.dat o :: SD b (S.sendP (st, kd, ml) now).1 :: SA.rds 1 (.slice ma mn mc) mn (ml.map v8) :: L) := by
  refine Fn.SD fun p T hT => ?_
  subst hT
  have pre1 : Ent (aB b p T :: aS p T :: aM p T :: aQ p T :: aD T :: aH p T :: SA.rds 1 (.slice ma mn mc) mn (ml.map v8) :: L) (aB b p T :: SA.rds 1 (.slice ma mn mc) mn (ml.map v8) :: aS p T :: aM p T :: aQ p T :: aD T :: aH p T :: L) := by exact ett
  have bk : Ent (aB b p T :: SA.rds 1 (.slice ma mn mc) mn (ml.map v8) :: aS p T :: aM p T :: aQ p T :: aD T :: aH p T :: L) (aB b p T :: aS p T :: aM p T :: aQ p T :: aD T :: aH p T :: SA.rds 1 (.slice ma mn mc) mn (ml.map v8) :: L) := by exact ett
  have pre6 : Ent (aB b p T :: aS p T :: aM p T :: aQ p T :: aD T :: aH p T :: SA.rds 1 (.slice ma mn mc) mn (ml.map v8) :: L) (aB b p T :: aQ p T :: aD T :: SA.rds 1 (.slice ma mn mc) mn (ml.map v8) :: aS p T :: aM p T :: aH p T :: L) := by exact ett
  have no : ∀ e : Nat, (abs T).sendP (st, kd, ml) now = (abs T, [], e) → ∀ (v : Value) (L' : List SA), (v = .tuple #[.slice none 0 0, vN e] ∧ L' = aB b p T :: SA.rds 1 (.slice ma mn mc) mn (ml.map v8) :: aS p T :: aM p T :: aQ p T :: aD T :: aH p T :: L) → ∃ L'', Ent L' L'' ∧ ∃ o : Sl Bs, v = .tuple #[o.v, vN ((abs T).sendP (st, kd, ml) now).2.2] ∧ o.l.map (·.l) = ((abs T).sendP (st, kd, ml) now).2.1 ∧ L'' = SA.dat o :: SD b ((abs T).sendP (st, kd, ml) now).1 :: SA.rds 1 (.slice ma mn mc) mn (ml.map v8) :: L := by
    rintro e he v L' ⟨rfl, rfl⟩
    rw [he]
    exact ⟨_, bk.trans ((Ent.SD rfl).trans (Ent.nilD (α := Bs))), ⟨none, 0, []⟩, rfl, rfl, rfl⟩
  by_cases hs : T.state = 3
  · by_cases hm : 1024 < mn
    · exact Fn.preE pre1 ((Send_large b p T st kd ma mn mc ml now hs hm _).mono (no 3 (by unfold AS.sendP; rw [if_neg (fun h => h hs), if_pos (show 1024 < ml.length by omega)])))
    · by_cases hq : T.queue.length = 32
      · exact Fn.preE pre1 ((Send_full b p T st kd ma mn mc ml now hs (by omega) hq _).mono (no 6 (by unfold AS.sendP; rw [if_neg (fun h => h hs), if_neg (show ¬ 1024 < ml.length by omega), if_pos (InvP.lenT.trans hq)])))
      · have hq32 : T.queue.length ≤ 32 := by have := hI.q32; rwa [InvP.lenT] at this
        have hsq : T.sent ≤ T.queue.length := by have := hI.sent; rwa [InvP.lenT] at this
        refine Fn.preE pre6 ((Send_yes b p T st kd ma mn mc ml hn hl now hs (by omega) (by omega) hI.shortT hsq hI.s16 _).mono ?_)
        rintro v L' ⟨o, p', bs, e1, e2, e3, e4, e5, rfl, hbs, ho, rfl⟩
        have he : (abs T).sendP (st, kd, ml) now = (abs (T.taken (st, kd, bs) now).more, (abs (T.taken (st, kd, bs) now)).moreOut, 0) := by
          unfold AS.sendP
          rw [if_neg (fun h => h hs), if_neg (show ¬ 1024 < ml.length by omega), if_neg (fun h => hq (InvP.lenT.symm.trans h)), abs_more, abs_taken, show pm (st, kd, bs) = (st, kd, ml) by unfold pm; rw [hbs]]
        rw [he]
        exact ⟨_, Ent.under _ ((Ent.more e1 e2 e3 e4 e5 (taken_same T _ _)).trans (Ent.SD rfl)), o, rfl, ho, rfl⟩
  · exact Fn.preE pre1 ((Send_state b p T st kd ma mn mc ml now hs _).mono (no 9 (by unfold AS.sendP; rw [if_pos (show (abs T).state ≠ 3 from hs)])))
theorem Tick_fn (now : Int) (L : List SA) : Fn Try.prog 20 [pt b 0, vI now] (SD b S :: L)
    (fun v L' => ∃ o : Sl Bs, v = o.v ∧ o.l.map (·.l) = (S.tickP now).2 ∧ L' = SA.dat o :: SD b (S.tickP now).1 :: L) := by
  refine Fn.SD fun p T hT => ?_
  subst hT
  by_cases hd : (T.clocked now).due
  · by_cases hf : T.fires = 8
    · refine (Tick_over b p T now hI.delay hd hf _).mono ?_
      rintro v L' ⟨rfl, rfl⟩
      rw [show (abs T).tickP now = (abs (T.clocked now).over, []) by unfold AS.tickP; rw [if_neg (fun h => h hd), if_pos (show (abs T).fires = 8 from hf)]; rfl]
      exact ⟨_, (show Ent _ (SD b (abs (T.clocked now).over) :: L) from Ent.SD (p := p) (T := (T.clocked now).over) rfl).trans (Ent.nilD (α := Bs)), ⟨none, 0, []⟩, rfl, rfl, rfl⟩
    · by_cases hs : T.state = 3
      · have hsq : T.sent ≤ T.queue.length := by have := hI.sent; rwa [InvP.lenT] at this
        refine Fn.preE (L' := aB b p T :: aQ p T :: aD T :: aS p T :: aM p T :: aH p T :: L) (by exact ett) ((Tick_again b p T now hI.delay hd hf hI.fires hs hI.shortT hsq hI.s16 _).mono ?_)
        rintro v L' ⟨o, rfl, ho, rfl⟩
        rw [show (abs T).tickP now = (abs (T.clocked now).fired, (abs T).againOut T.sent) by unfold AS.tickP; rw [if_neg (fun h => h hd), if_neg (show ¬ (abs T).fires = 8 from hf), if_neg (fun h => h hs)]; rfl]
        refine ⟨_, Ent.under _ ((show Ent _ (aB b p (T.clocked now).fired :: aS p T :: aM p T :: aQ p T :: aD T :: aH p T :: L) by generalize aB b p (T.clocked now).fired = A; exact ett).trans (Ent.SD (p := p) (T := (T.clocked now).fired) rfl)), o, rfl, ho, rfl⟩
      · refine Fn.preE (L' := aB b p T :: aH p T :: aS p T :: aM p T :: aQ p T :: aD T :: L) (by exact ett) ((Tick_shake b p T now hI.delay hd hf hI.fires hs hI.shake _).mono ?_)
        rintro v L' ⟨o, rfl, ho, rfl⟩
        rw [show (abs T).tickP now = (abs (T.clocked now).fired, [T.shake]) by unfold AS.tickP; rw [if_neg (fun h => h hd), if_neg (show ¬ (abs T).fires = 8 from hf), if_pos (show (abs T).state ≠ 3 from hs)]; rfl]
        refine ⟨_, Ent.under _ ((show Ent _ (aB b p (T.clocked now).fired :: aS p T :: aM p T :: aQ p T :: aD T :: aH p T :: L) by generalize aB b p (T.clocked now).fired = A; exact ett).trans (Ent.SD (p := p) (T := (T.clocked now).fired) rfl)), o, rfl, ho, rfl⟩
  · refine (Tick_quiet b p T now hI.delay hd _).mono ?_
    rintro v L' ⟨rfl, rfl⟩
    rw [show (abs T).tickP now = (abs (T.clocked now), []) by unfold AS.tickP; rw [if_pos (show ¬ ((abs T).clocked now).due from hd)]; rfl]
    exact ⟨_, (show Ent _ (SD b (abs (T.clocked now)) :: L) from Ent.SD (p := p) (T := T.clocked now) rfl).trans (Ent.nilD (α := Bs)), ⟨none, 0, []⟩, rfl, rfl, rfl⟩
end
end ac
end Go.Proofs.Ytomplpdeeomehaa


/- assoc: what holds of a side is kept. -/
namespace Go.Proofs.Ytomplpdeeomehaa
set_option linter.unusedVariables false
set_option linter.unusedSimpArgs false
open Go.RowKit
namespace ac
open wr (be16 be32)
open rd (num)
structure InvA (S : PS) : Prop extends InvP S where
  none : S.state < 3 → ∀ k, S.kept k = none
theorem win_le {μ : Type} {S : AS μ} {v w : Nat} (h : S.Win v) (hv : v ≤ w) : S.Win w := fun k hk => Nat.lt_of_lt_of_le (h k hk) hv
theorem win_none {μ : Type} {S : AS μ} (h : ∀ k, S.kept k = none) (w : Nat) : S.Win w := fun k hk => by rw [h k] at hk; cases hk
theorem inv_clocked {S : PS} (h : InvA S) (now : Int) : InvA (S.clocked now) := ⟨⟨h.sent, h.s16, h.q32, h.near, h.secret, h.shake, h.fires, h.delay, h.short⟩, h.none⟩
theorem inv_starts {S : PS} (h : InvA S) : InvA S.starts := ⟨⟨h.sent, h.s16, h.q32, h.near, h.secret, h.shake, Nat.zero_le _, (by show (0 : Int) ≤ 1000 ∧ (1000 : Int) ≤ 8000; decide), h.short⟩, h.none⟩
theorem inv_tset {S : PS} (h : InvA S) (t : Bool) : InvA { S with tset := t } := ⟨⟨h.sent, h.s16, h.q32, h.near, h.secret, h.shake, h.fires, h.delay, h.short⟩, h.none⟩
theorem inv_state {S : PS} (h : InvA S) (k : Nat) (t : Bool) (hk : 3 ≤ k) : InvA { S with state := k, tset := t } := ⟨⟨h.sent, h.s16, h.q32, h.near, h.secret, h.shake, h.fires, h.delay, h.short⟩, fun hs => absurd hs (by show ¬ k < 3; omega)⟩
theorem inv_opened {S : PS} (h : InvA S) (hs : S.state < 3) (x y : UInt32) : InvA (S.opened x y) := ⟨⟨h.sent, h.s16, h.q32, win_none (S := S.opened x y) (h.none hs) 32, h.secret, h.shake, h.fires, h.delay, h.short⟩, fun hs => absurd hs (by show ¬ 3 < 3; omega)⟩
theorem inv_echo {S : PS} (h : InvA S) (hs : S.state < 3) (x y : UInt32) {c : List UInt8} (hc : c.length ≤ 900) : InvA (S.echo x y c) :=
  inv_starts ⟨⟨h.sent, h.s16, h.q32, win_none (S := ({ S with known := true, other := x, top := y - 1, state := 2, shake := echoB x c } : PS)) (h.none hs) 32, h.secret, by show (echoB x c).length ≤ 1000; rw [echoB, List.length_append, pkt_len]; omega, h.fires, h.delay, h.short⟩, fun _ => h.none hs⟩
theorem keep_winG {μ : Type} {S : AS μ} {t : UInt32} {m : μ} (h : S.Win 32) : (S.keep t m).Win 32 := by
  unfold AS.keep
  split
  · rename_i hc
    intro k hk
    simp only [mput] at hk
    by_cases e : k = t
    · subst e; exact UInt32.lt_iff_toNat_lt.1 hc.2
    · rw [if_neg e] at hk; exact h k hk
  · exact h
theorem win_nextG {μ : Type} {S : AS μ} {w : Nat} (h : S.Win (w + 1)) : S.step1.Win w := fun k hk => by
  have hk2 : ¬ k = S.top + 1 ∧ (S.kept k).isSome = true := by
    simp only [AS.step1, mdel] at hk
    split at hk
    · cases hk
    · rename_i hne; exact ⟨hne, hk⟩
  have h1 := h k hk2.2
  have hne : k - S.top - 1 ≠ 0 := fun e => hk2.1 (by
    have : k = (k - S.top - 1) + (S.top + 1) := by grind
    rw [e, UInt32.zero_add] at this; exact this)
  show (k - (S.top + 1) - 1).toNat < w
  have e : k - (S.top + 1) - 1 = (k - S.top - 1) - 1 := by grind
  rw [e]
  generalize k - S.top - 1 = x at h1 hne ⊢
  have hx : x.toNat ≠ 0 := fun e => hne (UInt32.toNat_inj.1 (by simpa using e))
  have : (x - 1).toNat = x.toNat - 1 := by rw [UInt32.toNat_sub_of_le x 1 (by rw [UInt32.le_iff_toNat_le]; show 1 ≤ _; omega)]; rfl
  omega
theorem deliver_win {μ : Type} (f : Nat) : ∀ S : AS μ, S.Win 32 → (S.deliver f).2.Win 32 := by
  induction f with
  | zero => intro S h; exact h
  | succ f ih =>
    intro S h
    rw [AS.deliver]
    cases S.kept (S.top + 1) with
    | none => exact h
    | some m => exact ih _ (win_le (win_nextG (w := 31) h) (by decide))
structure SameR {μ : Type} (S T : AS μ) : Prop where
  state : S.state = T.state
  queue : S.queue = T.queue
  sent : S.sent = T.sent
  secret : S.secret = T.secret
  shake : S.shake = T.shake
  fires : S.fires = T.fires
  delay : S.delay = T.delay
  tag : S.tag = T.tag
  other : S.other = T.other
  base : S.base = T.base
  known : S.known = T.known
  first : S.first = T.first
theorem SameR.trans {μ : Type} {S T U : AS μ} (h : SameR S T) (k : SameR T U) : SameR S U := ⟨h.1.trans k.1, h.2.trans k.2, h.3.trans k.3, h.4.trans k.4, h.5.trans k.5, h.6.trans k.6, h.7.trans k.7, h.8.trans k.8, h.9.trans k.9, h.10.trans k.10, h.11.trans k.11, h.12.trans k.12⟩
theorem SameR.rfl' {μ : Type} {S : AS μ} : SameR S S := ⟨rfl, rfl, rfl, rfl, rfl, rfl, rfl, rfl, rfl, rfl, rfl, rfl⟩
theorem keep_sr {μ : Type} (S : AS μ) (t : UInt32) (m : μ) : SameR (S.keep t m) S := by unfold AS.keep; split <;> exact ⟨rfl, rfl, rfl, rfl, rfl, rfl, rfl, rfl, rfl, rfl, rfl, rfl⟩
theorem deliver_sr {μ : Type} (f : Nat) : ∀ S : AS μ, SameR (S.deliver f).2 S := by
  induction f with
  | zero => intro S; exact SameR.rfl'
  | succ f ih =>
    intro S
    rw [AS.deliver]
    cases S.kept (S.top + 1) with
    | none => exact SameR.rfl'
    | some m => exact (ih S.step1).trans ⟨rfl, rfl, rfl, rfl, rfl, rfl, rfl, rfl, rfl, rfl, rfl, rfl⟩
theorem recv_sr {μ : Type} (S : AS μ) (t : UInt32) (m : μ) : SameR (S.recv t m).2 S := (deliver_sr 33 _).trans (keep_sr S t m)
theorem inv_recv {S : PS} (h : InvA S) (hs : S.state = 3) (t : UInt32) (m : PM) : InvA (S.recv t m).2 := by
  have r := recv_sr S t m
  exact ⟨⟨by rw [r.sent, r.queue]; exact h.sent, by rw [r.sent]; exact h.s16, by rw [r.queue]; exact h.q32, deliver_win 33 _ (keep_winG h.near), by rw [r.secret]; exact h.secret, by rw [r.shake]; exact h.shake, by rw [r.fires]; exact h.fires, by rw [r.delay]; exact h.delay, by rw [r.queue]; exact h.short⟩, fun hx => absurd hx (by rw [r.state]; omega)⟩
theorem inv_cutQ {S : PS} (h : InvA S) (n : UInt32) : InvA (S.cutQ n) := by
  have h1 := h.sent; have h2 := h.s16; have h3 := h.q32
  exact ⟨⟨by show S.sent - n.toNat ≤ (S.queue.drop n.toNat).length; rw [List.length_drop]; omega, by show S.sent - n.toNat ≤ 16; omega, by show (S.queue.drop n.toNat).length ≤ 32; rw [List.length_drop]; omega, h.near, h.secret, h.shake, h.fires, h.delay, fun x hx => h.short x (List.mem_of_mem_drop hx)⟩, h.none⟩
theorem inv_mark {S : PS} (h : InvA S) (t : UInt32) : InvA (S.mark t) := by
  unfold AS.mark
  split
  · have hl : (S.queue.modify (t - S.base).toNat fun x => (x.1, true)).length = S.queue.length := List.length_modify _ _ _
    have hm : (S.queue.modify (t - S.base).toNat fun x => (x.1, true)).map (·.1) = S.queue.map (·.1) := by
      have := markQ_map S.base S.sent S.queue t
      unfold markQ at this
      rwa [if_pos (by assumption)] at this
    exact ⟨⟨by show S.sent ≤ (S.queue.modify (t - S.base).toNat fun x => (x.1, true)).length; rw [hl]; exact h.sent, h.s16, by show (S.queue.modify (t - S.base).toNat fun x => (x.1, true)).length ≤ 32; rw [hl]; exact h.q32, h.near, h.secret, h.shake, h.fires, h.delay, fun x hx => by
      have hx2 : x.1 ∈ S.queue.map (·.1) := by rw [← hm]; exact List.mem_map_of_mem (f := fun x : PM × Bool => x.1) hx
      obtain ⟨y, hy, hyx⟩ := List.mem_map.1 hx2
      rw [← hyx]; exact h.short y hy⟩, h.none⟩
  · exact h
theorem inv_marks (l : List UInt32) : ∀ {S : PS}, InvA S → InvA (l.foldl AS.mark S) := by
  induction l with
  | nil => intro S h; exact h
  | cons t l ih => intro S h; exact ih (inv_mark h t)
theorem inv_ack1 {S : PS} (h : InvA S) (c : UInt32) (l : List UInt32) : InvA (S.ack1 c l) := by
  have h1 : InvA (S.drop1 c) := by
    unfold AS.drop1; split
    · exact inv_cutQ h _
    · exact h
  unfold AS.ack1
  split
  · exact inv_tset (inv_starts (inv_marks l h1)) _
  · exact inv_marks l h1
theorem inv_more {S : PS} (h : InvA S) : InvA S.more := by
  have h1 := h.sent; have h2 := h.s16
  have hb : InvA { S with sent := max S.sent (min S.queue.length 16) } := ⟨⟨by show max S.sent (min S.queue.length 16) ≤ S.queue.length; omega, by show max S.sent (min S.queue.length 16) ≤ 16; omega, h.q32, h.near, h.secret, h.shake, h.fires, h.delay, h.short⟩, h.none⟩
  unfold AS.more
  split
  · exact inv_starts hb
  · exact hb
theorem inv_handle2 {S : PS} (h : InvA S) {l : List UInt8} {kd : UInt32} (hF : Formed l kd) : InvA (S.handle2 l kd).1 := by
  unfold AS.handle2
  split
  · exact h
  split
  · split <;> exact h
  split
  · exact h
  split
  · rename_i h2
    split
    · exact h
    · rename_i hs
      exact inv_echo h (by have := Classical.not_not.1 hs; omega) _ _ (by have := hF.fits; subst h2; simp [fitsB] at this; rw [List.length_drop]; omega)
  split
  · split
    · exact h
    split
    · rename_i hs; exact inv_opened h (by omega) _ _
    split <;> exact h
  split
  · split
    · exact inv_state h 3 false (by decide)
    split <;> exact h
  split
  · exact inv_state h 4 false (by decide)
  split
  · exact h
  rename_i hs
  split
  · exact inv_recv h (Classical.not_not.1 hs) _ _
  · exact inv_more (inv_ack1 h _ _)
theorem inv_handle {S : PS} (h : InvA S) (now : Int) (l : List UInt8) : InvA (S.handle now l).1 := by
  by_cases h8 : 8 ≤ l.length
  · rcases formed_or l h8 with hb | hF
    · rw [handle_bad (.inr hb)]; exact inv_clocked h now
    · rw [handle_ok hF]; exact inv_handle2 (inv_clocked h now) hF
  · rw [handle_bad (.inl (by omega))]; exact inv_clocked h now
theorem inv_send {S : PS} (h : InvA S) (m : PM) (now : Int) : InvA (S.sendP m now).1 := by
  unfold AS.sendP
  split
  · exact h
  split
  · exact h
  rename_i hm
  split
  · exact h
  rename_i hq
  have h1 := h.sent; have h3 := h.q32
  refine inv_more ⟨⟨by show S.sent ≤ (S.queue ++ [(m, false)]).length; rw [List.length_append]; omega, h.s16, by show (S.queue ++ [(m, false)]).length ≤ 32; rw [List.length_append]; show S.queue.length + 1 ≤ 32; omega, h.near, h.secret, h.shake, h.fires, h.delay, fun x hx => ?_⟩, h.none⟩
  rcases List.mem_append.1 hx with hx | hx
  · exact h.short x hx
  · rw [List.mem_singleton.1 hx]; show m.2.2.length ≤ 1024; omega
theorem inv_tick {S : PS} (h : InvA S) (now : Int) : InvA (S.tickP now).1 := by
  have hf : S.fires ≠ 8 → InvA (S.clocked now).fired := fun h8 => by
    have h1 := h.fires; have h2 := h.delay
    exact ⟨⟨h.sent, h.s16, h.q32, h.near, h.secret, h.shake, by show S.fires + 1 ≤ 8; omega, by show 0 ≤ min (2 * S.delay) 8000 ∧ min (2 * S.delay) 8000 ≤ 8000; omega, h.short⟩, h.none⟩
  unfold AS.tickP
  split
  · exact inv_clocked h now
  split
  · exact inv_state (inv_clocked h now) 4 false (by decide)
  rename_i h8
  split <;> exact hf h8
end ac
end Go.Proofs.Ytomplpdeeomehaa


/- assoc: ours, theirs, walked. -/
namespace Go.Proofs.Ytomplpdeeomehaa
set_option linter.unusedVariables false
set_option linter.unusedSimpArgs false
open Go.RowKit
namespace ac
open wr (be16 be32)
open rd (num)
namespace FxAsO
set_option maxRecDepth 100000
theorem el44 : Elt Try.prog 44 77 3 32 (.agg #[.int .u16 0, .int .u32 0, .slice none 0 0]) := ⟨Try.underlying44, by kernel_rfl, rfl, by decide, by simp [Value.cells, Value.oneCell']⟩
theorem pl77 : Program.places Try.prog 77 = some [(0, 1), (1, 1), (2, 1)] := by kernel_rfl
theorem sl28 : Program.slI Try.prog 28 = some 3 := by kernel_rfl
theorem zc77 : Program.zeroC Try.prog 77 = some #[.int .u16 0, .int .u32 0, .slice none 0 0] := by kernel_rfl
end FxAsO
open Go.Proofs.Ytomplpdeeomehaa.ac.FxAsC Go.Proofs.Ytomplpdeeomehaa.sha.FxShaBlock Go.Proofs.Ytomplpdeeomehaa.rd.FxWireR FxAsO
abbrev rmT := 77
set_option maxHeartbeats 1000000 in
--REG rostrum/rostrumlaw20.ours : _ _ ⟨oa{d}, oc{d}, rfl, rfl⟩ => (ac.ours_fn _ _ _ (by omega) _)
theorem ours_fn (a : Option Addr) (cap : Nat) (l : List Msg) (hl : l.length ≤ 1000000) (L : List SA) : Fn Try.prog 40 [.slice a l.length cap] (SA.dat (⟨a, cap, l⟩ : Sl Msg) :: L)
    (fun v L' => ∃ oa oc, v = .slice oa l.length oc ∧ L' = SA.dat (⟨oa, oc, l⟩ : Sl Msg) :: SA.dat (⟨a, cap, l⟩ : Sl Msg) :: L) := by
  refine Fn.of (N := 31) Try.func40 rfl rfl ?_
  intro Xh
  refine TC.seq (TC.region ?_)
  refine TL.sg ?_
  refine TL.nil (TQ.next (TC.seq (TC.region ?_)))
  refine TL.sg ?_
  refine TL.nil (TQ.next (TC.seq (TC.seq (TC.region ?_))))
  refine TL.mv ?_
  refine TL.val rfl rfl rfl (Y.len rfl Try.underlying28 rfl) ?_
  refine TL.mv ?_
  refine TL.nil (TQ.next (TC.block ?_))
  refine TC.to (Ent.trans (Ent.nilOwn rmT 3) Ent.rdss0) ?_
  refine TC.loopF (ι := Nat × Option Addr × Nat) [] (fun i => i.1 ≤ l.length) (fun i => [(7, some (vN i.1)), (3, some (.slice i.2.1 i.1 i.2.2))]) (fun i => [SA.owns rmT 3 (.slice i.2.1 i.1 i.2.2) i.1 (Dat.cs (l.take i.1)), SA.rdss ((l.take i.1).flatMap Dat.g)]) (fun i => l.length - i.1) ((0, none, 0)) (by omega) ⟨rfl, rfl, trivial⟩ (Pulls.cons pul (Pulls.cons pul Pulls.nil)) ?_
  rintro ⟨k, ga, gc⟩ hk F' L' rfl hL'
  simp only [List.cons_append, List.nil_append] at hL'
  subst hL'
  simp only at hk ⊢
  refine TC.seq (TC.region ?_)
  refine TL.val rfl rfl rfl (Y.bin rfl rfl rfl (br_ltN)) ?_
  refine TL.nil (TQ.next (TC.seq ?_))
  refine TC.cond rfl (fun c0 => ?_) (fun c0 => ?_)
  · try simp only [zA, zB, zC, zD, zE, zF, zG, zH, zI, zJ] at c0
    refine TC.skip (TQ.next (TC.seq (TC.block (TC.seq (TC.region ?_)))))
    refine TL.mv ?_
    refine TL.sg ?_
    refine TL.nil (TQ.next ?_)
    obtain ⟨⟨st, kd, bs⟩, hx, hxm⟩ := getS (l := l) (i := k) (by omega)
    refine TC.know (dat_some (a := a) (l := l) inn (by omega)) ?_
    rintro ⟨mg, mo, rfl⟩
    have htk : l.take (k + 1) = l.take k ++ [(st, kd, bs)] := by rw [List.take_add_one, hx]; rfl
    refine TC.to ((Pull.ent (A := SA.dat (⟨some ⟨mg, mo, none⟩, cap, l⟩ : Sl Msg)) pul).trans (Ent.elem hxm)) ?_
    refine TC.draws 18 [SA.dat (⟨some ⟨mg, mo, none⟩, cap, l⟩ : Sl Msg)] (by kernel_rfl) (by kernel_rfl) hld ?_
    refine TA.tk 0 rfl rfl (Y.move rfl rfl) ?_
    refine TA.tp 1 rfl rfl (Y.move rfl rfl) ?_
    refine TA.tp 2 rfl rfl (Y.move rfl rfl) ?_
    refine TA.tp 3 rfl rfl (by first | exact Y.indexSlB rfl sl28 rfl rfl (by omega) nqq | exact Y.indexSl rfl sl28 rfl rfl (by omega) nqq) ?_
    refine TA.tp 4 rfl rfl (by first | exact Y.fieldAddrJ rfl fo51_0 rfl nqq | exact Y.fieldAddr rfl fo51_0 rfl nqq) ?_
    refine TA.tp 6 rfl rfl (Y.move rfl rfl) ?_
    refine TA.tp 7 rfl rfl (Y.move rfl rfl) ?_
    refine TA.tp 8 rfl rfl (by first | exact Y.indexSlB rfl sl28 rfl rfl (by omega) nqq | exact Y.indexSl rfl sl28 rfl rfl (by omega) nqq) ?_
    refine TA.tp 9 rfl rfl (by first | exact Y.fieldAddrJ rfl fo51_1 rfl nqq | exact Y.fieldAddr rfl fo51_1 rfl nqq) ?_
    refine TA.tp 11 rfl rfl (Y.move rfl rfl) ?_
    refine TA.tp 12 rfl rfl (Y.move rfl rfl) ?_
    refine TA.tp 13 rfl rfl (by first | exact Y.indexSlB rfl sl28 rfl rfl (by omega) nqq | exact Y.indexSl rfl sl28 rfl rfl (by omega) nqq) ?_
    refine TA.tp 14 rfl rfl (by first | exact Y.fieldAddrJ rfl fo51_2 rfl nqq | exact Y.fieldAddr rfl fo51_2 rfl nqq) ?_
    refine TA.any (rs := [5, 10, 15]) (by kernel_rfl) (by simp) ?_
    simp only [List.forall_mem_cons, List.not_mem_nil, false_implies, implies_true, and_true]
    refine ⟨?_, ?_, ?_⟩
    · skip
      refine TAo.eff rfl rfl rfl rfl (Eff.val (fun _ h => by cases h) (Y.load rfl sc40 rfl cel16)) ?_
      rintro _ _ ⟨rfl, rfl⟩
      refine ⟨Or.inr hld, ?_⟩
      refine TA.as (v16 st) (by rfl) ?_
      refine TA.any (rs := [10, 15]) (by kernel_rfl) (by simp) ?_
      simp only [List.forall_mem_cons, List.not_mem_nil, false_implies, implies_true, and_true]
      refine ⟨?_, ?_⟩
      · skip
        refine TAo.eff rfl rfl rfl rfl (Eff.val (fun _ h => by cases h) (Y.load rfl sc22 rfl cel32)) ?_
        rintro _ _ ⟨rfl, rfl⟩
        refine ⟨Or.inr hld, ?_⟩
        refine TA.as (v32 kd) (by rfl) ?_
        refine TA.one 15 (by kernel_rfl) rfl rfl rfl rfl (Eff.val (fun _ h => by cases h) (Y.load rfl sc23 rfl celD)) ?_
        rintro _ _ ⟨rfl, rfl⟩
        refine ⟨Or.inr hld, ?_⟩
        refine TA.as (.slice bs.a bs.l.length bs.cap) (by rfl) ?_
        refine TA.tp 16 rfl rfl (Y.buildS (cells := #[v16 st, v32 kd, .slice bs.a bs.l.length bs.cap]) rfl rfl pl77 zc77 (by kernel_rfl)) ?_
        refine TA.as (.agg (Dat.c ((st, kd, bs) : Msg)).toArray) (by rfl) ?_
        refine TA.one 17 (by kernel_rfl) rfl rfl rfl rfl (X.litD (sz := 3) ((st, kd, bs) : Msg) rfl Try.underlying44 (by kernel_rfl) rfl rfl (by decide)) ?_
        rintro _ _ ⟨g27, rfl, rfl⟩
        refine ⟨(Or.inr hld), ?_⟩
        refine TA.one 18 (by kernel_rfl) rfl rfl rfl rfl (X.appendS rfl el44 rfl pul rfl (by first | exact Src.owns Try.underlying44 inn | exact Src.rds Try.underlying44 inn | exact Src.reads (by assumption) Try.underlying44 inn) (by simp only [maxLen]; omega) (by omega)) ?_
        rintro _ _ ⟨a28, c28, rfl, rfl⟩
        rw [show Dat.cs (l.take k) ++ Dat.c ((st, kd, bs) : Msg) = Dat.cs (l.take (k + 1)) by rw [htk, Dat.cs_app, Dat.cs_one]]
        refine ⟨(Or.inl (by kernel_rfl)), ?_⟩
        refine TA.tp 19 rfl rfl (Y.assign rfl rfl) ?_
        refine TA.done (by kernel_rfl) ?_
        refine TQ.to (Ent.addEl (ys := l.take k) (x := ((st, kd, bs) : Msg)) pul pul) ?_
        rw [← htk]
        refine TQ.block_normal (TQ.next (TC.region ?_))
        refine TL.val rfl rfl rfl (Y.bin rfl rfl rfl (br_addN (n := 1) (by omega))) ?_
        refine TL.mv ?_
        refine TL.nil ?_
        refine TQ.loopF ((k + 1, a28, c28)) (by show k + 1 ≤ _; omega) (by show l.length - (k + 1) < l.length - k; omega) ⟨rfl, rfl, trivial⟩ grw ?_ ?_ ?_
        · kernel_rfl
        · rfl
        · simp only [List.cons_append, List.nil_append]
          exact ett
      · skip
        refine TAo.eff rfl rfl rfl rfl (Eff.val (fun _ h => by cases h) (Y.load rfl sc23 rfl celD)) ?_
        rintro _ _ ⟨rfl, rfl⟩
        refine ⟨Or.inr hld, ?_⟩
        refine TA.as (.slice bs.a bs.l.length bs.cap) (by rfl) ?_
        refine TA.one 10 (by kernel_rfl) rfl rfl rfl rfl (Eff.val (fun _ h => by cases h) (Y.load rfl sc22 rfl cel32)) ?_
        rintro _ _ ⟨rfl, rfl⟩
        refine ⟨Or.inr hld, ?_⟩
        refine TA.as (v32 kd) (by rfl) ?_
        refine TA.tp 16 rfl rfl (Y.buildS (cells := #[v16 st, v32 kd, .slice bs.a bs.l.length bs.cap]) rfl rfl pl77 zc77 (by kernel_rfl)) ?_
        refine TA.as (.agg (Dat.c ((st, kd, bs) : Msg)).toArray) (by rfl) ?_
        refine TA.one 17 (by kernel_rfl) rfl rfl rfl rfl (X.litD (sz := 3) ((st, kd, bs) : Msg) rfl Try.underlying44 (by kernel_rfl) rfl rfl (by decide)) ?_
        rintro _ _ ⟨g27, rfl, rfl⟩
        refine ⟨(Or.inr hld), ?_⟩
        refine TA.one 18 (by kernel_rfl) rfl rfl rfl rfl (X.appendS rfl el44 rfl pul rfl (by first | exact Src.owns Try.underlying44 inn | exact Src.rds Try.underlying44 inn | exact Src.reads (by assumption) Try.underlying44 inn) (by simp only [maxLen]; omega) (by omega)) ?_
        rintro _ _ ⟨a28, c28, rfl, rfl⟩
        rw [show Dat.cs (l.take k) ++ Dat.c ((st, kd, bs) : Msg) = Dat.cs (l.take (k + 1)) by rw [htk, Dat.cs_app, Dat.cs_one]]
        refine ⟨(Or.inl (by kernel_rfl)), ?_⟩
        refine TA.tp 19 rfl rfl (Y.assign rfl rfl) ?_
        refine TA.done (by kernel_rfl) ?_
        refine TQ.to (Ent.addEl (ys := l.take k) (x := ((st, kd, bs) : Msg)) pul pul) ?_
        rw [← htk]
        refine TQ.block_normal (TQ.next (TC.region ?_))
        refine TL.val rfl rfl rfl (Y.bin rfl rfl rfl (br_addN (n := 1) (by omega))) ?_
        refine TL.mv ?_
        refine TL.nil ?_
        refine TQ.loopF ((k + 1, a28, c28)) (by show k + 1 ≤ _; omega) (by show l.length - (k + 1) < l.length - k; omega) ⟨rfl, rfl, trivial⟩ grw ?_ ?_ ?_
        · kernel_rfl
        · rfl
        · simp only [List.cons_append, List.nil_append]
          exact ett
    · skip
      refine TAo.eff rfl rfl rfl rfl (Eff.val (fun _ h => by cases h) (Y.load rfl sc22 rfl cel32)) ?_
      rintro _ _ ⟨rfl, rfl⟩
      refine ⟨Or.inr hld, ?_⟩
      refine TA.as (v32 kd) (by rfl) ?_
      refine TA.any (rs := [5, 15]) (by kernel_rfl) (by simp) ?_
      simp only [List.forall_mem_cons, List.not_mem_nil, false_implies, implies_true, and_true]
      refine ⟨?_, ?_⟩
      · skip
        refine TAo.eff rfl rfl rfl rfl (Eff.val (fun _ h => by cases h) (Y.load rfl sc40 rfl cel16)) ?_
        rintro _ _ ⟨rfl, rfl⟩
        refine ⟨Or.inr hld, ?_⟩
        refine TA.as (v16 st) (by rfl) ?_
        refine TA.one 15 (by kernel_rfl) rfl rfl rfl rfl (Eff.val (fun _ h => by cases h) (Y.load rfl sc23 rfl celD)) ?_
        rintro _ _ ⟨rfl, rfl⟩
        refine ⟨Or.inr hld, ?_⟩
        refine TA.as (.slice bs.a bs.l.length bs.cap) (by rfl) ?_
        refine TA.tp 16 rfl rfl (Y.buildS (cells := #[v16 st, v32 kd, .slice bs.a bs.l.length bs.cap]) rfl rfl pl77 zc77 (by kernel_rfl)) ?_
        refine TA.as (.agg (Dat.c ((st, kd, bs) : Msg)).toArray) (by rfl) ?_
        refine TA.one 17 (by kernel_rfl) rfl rfl rfl rfl (X.litD (sz := 3) ((st, kd, bs) : Msg) rfl Try.underlying44 (by kernel_rfl) rfl rfl (by decide)) ?_
        rintro _ _ ⟨g27, rfl, rfl⟩
        refine ⟨(Or.inr hld), ?_⟩
        refine TA.one 18 (by kernel_rfl) rfl rfl rfl rfl (X.appendS rfl el44 rfl pul rfl (by first | exact Src.owns Try.underlying44 inn | exact Src.rds Try.underlying44 inn | exact Src.reads (by assumption) Try.underlying44 inn) (by simp only [maxLen]; omega) (by omega)) ?_
        rintro _ _ ⟨a28, c28, rfl, rfl⟩
        rw [show Dat.cs (l.take k) ++ Dat.c ((st, kd, bs) : Msg) = Dat.cs (l.take (k + 1)) by rw [htk, Dat.cs_app, Dat.cs_one]]
        refine ⟨(Or.inl (by kernel_rfl)), ?_⟩
        refine TA.tp 19 rfl rfl (Y.assign rfl rfl) ?_
        refine TA.done (by kernel_rfl) ?_
        refine TQ.to (Ent.addEl (ys := l.take k) (x := ((st, kd, bs) : Msg)) pul pul) ?_
        rw [← htk]
        refine TQ.block_normal (TQ.next (TC.region ?_))
        refine TL.val rfl rfl rfl (Y.bin rfl rfl rfl (br_addN (n := 1) (by omega))) ?_
        refine TL.mv ?_
        refine TL.nil ?_
        refine TQ.loopF ((k + 1, a28, c28)) (by show k + 1 ≤ _; omega) (by show l.length - (k + 1) < l.length - k; omega) ⟨rfl, rfl, trivial⟩ grw ?_ ?_ ?_
        · kernel_rfl
        · rfl
        · simp only [List.cons_append, List.nil_append]
          exact ett
      · skip
        refine TAo.eff rfl rfl rfl rfl (Eff.val (fun _ h => by cases h) (Y.load rfl sc23 rfl celD)) ?_
        rintro _ _ ⟨rfl, rfl⟩
        refine ⟨Or.inr hld, ?_⟩
        refine TA.as (.slice bs.a bs.l.length bs.cap) (by rfl) ?_
        refine TA.one 5 (by kernel_rfl) rfl rfl rfl rfl (Eff.val (fun _ h => by cases h) (Y.load rfl sc40 rfl cel16)) ?_
        rintro _ _ ⟨rfl, rfl⟩
        refine ⟨Or.inr hld, ?_⟩
        refine TA.as (v16 st) (by rfl) ?_
        refine TA.tp 16 rfl rfl (Y.buildS (cells := #[v16 st, v32 kd, .slice bs.a bs.l.length bs.cap]) rfl rfl pl77 zc77 (by kernel_rfl)) ?_
        refine TA.as (.agg (Dat.c ((st, kd, bs) : Msg)).toArray) (by rfl) ?_
        refine TA.one 17 (by kernel_rfl) rfl rfl rfl rfl (X.litD (sz := 3) ((st, kd, bs) : Msg) rfl Try.underlying44 (by kernel_rfl) rfl rfl (by decide)) ?_
        rintro _ _ ⟨g27, rfl, rfl⟩
        refine ⟨(Or.inr hld), ?_⟩
        refine TA.one 18 (by kernel_rfl) rfl rfl rfl rfl (X.appendS rfl el44 rfl pul rfl (by first | exact Src.owns Try.underlying44 inn | exact Src.rds Try.underlying44 inn | exact Src.reads (by assumption) Try.underlying44 inn) (by simp only [maxLen]; omega) (by omega)) ?_
        rintro _ _ ⟨a28, c28, rfl, rfl⟩
        rw [show Dat.cs (l.take k) ++ Dat.c ((st, kd, bs) : Msg) = Dat.cs (l.take (k + 1)) by rw [htk, Dat.cs_app, Dat.cs_one]]
        refine ⟨(Or.inl (by kernel_rfl)), ?_⟩
        refine TA.tp 19 rfl rfl (Y.assign rfl rfl) ?_
        refine TA.done (by kernel_rfl) ?_
        refine TQ.to (Ent.addEl (ys := l.take k) (x := ((st, kd, bs) : Msg)) pul pul) ?_
        rw [← htk]
        refine TQ.block_normal (TQ.next (TC.region ?_))
        refine TL.val rfl rfl rfl (Y.bin rfl rfl rfl (br_addN (n := 1) (by omega))) ?_
        refine TL.mv ?_
        refine TL.nil ?_
        refine TQ.loopF ((k + 1, a28, c28)) (by show k + 1 ≤ _; omega) (by show l.length - (k + 1) < l.length - k; omega) ⟨rfl, rfl, trivial⟩ grw ?_ ?_ ?_
        · kernel_rfl
        · rfl
        · simp only [List.cons_append, List.nil_append]
          exact ett
    · skip
      refine TAo.eff rfl rfl rfl rfl (Eff.val (fun _ h => by cases h) (Y.load rfl sc23 rfl celD)) ?_
      rintro _ _ ⟨rfl, rfl⟩
      refine ⟨Or.inr hld, ?_⟩
      refine TA.as (.slice bs.a bs.l.length bs.cap) (by rfl) ?_
      refine TA.any (rs := [5, 10]) (by kernel_rfl) (by simp) ?_
      simp only [List.forall_mem_cons, List.not_mem_nil, false_implies, implies_true, and_true]
      refine ⟨?_, ?_⟩
      · skip
        refine TAo.eff rfl rfl rfl rfl (Eff.val (fun _ h => by cases h) (Y.load rfl sc40 rfl cel16)) ?_
        rintro _ _ ⟨rfl, rfl⟩
        refine ⟨Or.inr hld, ?_⟩
        refine TA.as (v16 st) (by rfl) ?_
        refine TA.one 10 (by kernel_rfl) rfl rfl rfl rfl (Eff.val (fun _ h => by cases h) (Y.load rfl sc22 rfl cel32)) ?_
        rintro _ _ ⟨rfl, rfl⟩
        refine ⟨Or.inr hld, ?_⟩
        refine TA.as (v32 kd) (by rfl) ?_
        refine TA.tp 16 rfl rfl (Y.buildS (cells := #[v16 st, v32 kd, .slice bs.a bs.l.length bs.cap]) rfl rfl pl77 zc77 (by kernel_rfl)) ?_
        refine TA.as (.agg (Dat.c ((st, kd, bs) : Msg)).toArray) (by rfl) ?_
        refine TA.one 17 (by kernel_rfl) rfl rfl rfl rfl (X.litD (sz := 3) ((st, kd, bs) : Msg) rfl Try.underlying44 (by kernel_rfl) rfl rfl (by decide)) ?_
        rintro _ _ ⟨g27, rfl, rfl⟩
        refine ⟨(Or.inr hld), ?_⟩
        refine TA.one 18 (by kernel_rfl) rfl rfl rfl rfl (X.appendS rfl el44 rfl pul rfl (by first | exact Src.owns Try.underlying44 inn | exact Src.rds Try.underlying44 inn | exact Src.reads (by assumption) Try.underlying44 inn) (by simp only [maxLen]; omega) (by omega)) ?_
        rintro _ _ ⟨a28, c28, rfl, rfl⟩
        rw [show Dat.cs (l.take k) ++ Dat.c ((st, kd, bs) : Msg) = Dat.cs (l.take (k + 1)) by rw [htk, Dat.cs_app, Dat.cs_one]]
        refine ⟨(Or.inl (by kernel_rfl)), ?_⟩
        refine TA.tp 19 rfl rfl (Y.assign rfl rfl) ?_
        refine TA.done (by kernel_rfl) ?_
        refine TQ.to (Ent.addEl (ys := l.take k) (x := ((st, kd, bs) : Msg)) pul pul) ?_
        rw [← htk]
        refine TQ.block_normal (TQ.next (TC.region ?_))
        refine TL.val rfl rfl rfl (Y.bin rfl rfl rfl (br_addN (n := 1) (by omega))) ?_
        refine TL.mv ?_
        refine TL.nil ?_
        refine TQ.loopF ((k + 1, a28, c28)) (by show k + 1 ≤ _; omega) (by show l.length - (k + 1) < l.length - k; omega) ⟨rfl, rfl, trivial⟩ grw ?_ ?_ ?_
        · kernel_rfl
        · rfl
        · simp only [List.cons_append, List.nil_append]
          exact ett
      · skip
        refine TAo.eff rfl rfl rfl rfl (Eff.val (fun _ h => by cases h) (Y.load rfl sc22 rfl cel32)) ?_
        rintro _ _ ⟨rfl, rfl⟩
        refine ⟨Or.inr hld, ?_⟩
        refine TA.as (v32 kd) (by rfl) ?_
        refine TA.one 5 (by kernel_rfl) rfl rfl rfl rfl (Eff.val (fun _ h => by cases h) (Y.load rfl sc40 rfl cel16)) ?_
        rintro _ _ ⟨rfl, rfl⟩
        refine ⟨Or.inr hld, ?_⟩
        refine TA.as (v16 st) (by rfl) ?_
        refine TA.tp 16 rfl rfl (Y.buildS (cells := #[v16 st, v32 kd, .slice bs.a bs.l.length bs.cap]) rfl rfl pl77 zc77 (by kernel_rfl)) ?_
        refine TA.as (.agg (Dat.c ((st, kd, bs) : Msg)).toArray) (by rfl) ?_
        refine TA.one 17 (by kernel_rfl) rfl rfl rfl rfl (X.litD (sz := 3) ((st, kd, bs) : Msg) rfl Try.underlying44 (by kernel_rfl) rfl rfl (by decide)) ?_
        rintro _ _ ⟨g27, rfl, rfl⟩
        refine ⟨(Or.inr hld), ?_⟩
        refine TA.one 18 (by kernel_rfl) rfl rfl rfl rfl (X.appendS rfl el44 rfl pul rfl (by first | exact Src.owns Try.underlying44 inn | exact Src.rds Try.underlying44 inn | exact Src.reads (by assumption) Try.underlying44 inn) (by simp only [maxLen]; omega) (by omega)) ?_
        rintro _ _ ⟨a28, c28, rfl, rfl⟩
        rw [show Dat.cs (l.take k) ++ Dat.c ((st, kd, bs) : Msg) = Dat.cs (l.take (k + 1)) by rw [htk, Dat.cs_app, Dat.cs_one]]
        refine ⟨(Or.inl (by kernel_rfl)), ?_⟩
        refine TA.tp 19 rfl rfl (Y.assign rfl rfl) ?_
        refine TA.done (by kernel_rfl) ?_
        refine TQ.to (Ent.addEl (ys := l.take k) (x := ((st, kd, bs) : Msg)) pul pul) ?_
        rw [← htk]
        refine TQ.block_normal (TQ.next (TC.region ?_))
        refine TL.val rfl rfl rfl (Y.bin rfl rfl rfl (br_addN (n := 1) (by omega))) ?_
        refine TL.mv ?_
        refine TL.nil ?_
        refine TQ.loopF ((k + 1, a28, c28)) (by show k + 1 ≤ _; omega) (by show l.length - (k + 1) < l.length - k; omega) ⟨rfl, rfl, trivial⟩ grw ?_ ?_ ?_
        · kernel_rfl
        · rfl
        · simp only [List.cons_append, List.nil_append]
          exact ett
  · try simp only [zA, zB, zC, zD, zE, zF, zG, zH, zI, zJ] at c0
    obtain rfl : k = l.length := by omega
    rw [List.take_length]
    refine TC.to (Ent.mkOwn (a := ga) (l := l) pul pul rfl rfl rfl) ?_
    refine TC.exit (TQ.then_exit (TQ.then_exit (TQ.block_exit (TQ.next (TC.seq (TC.region ?_))))))
    refine TL.mv ?_
    refine TL.sg ?_
    refine TL.nil (TQ.next (TC.ret ?_))
    refine TQ.retE (res1 rfl rfl) (⟨ga, gc, rfl, rfl⟩) ?_
    exact ett
end ac
end Go.Proofs.Ytomplpdeeomehaa


/- assoc: the net; step of the third kind, walked. -/
namespace Go.Proofs.Ytomplpdeeomehaa
set_option linter.unusedVariables false
set_option linter.unusedSimpArgs false
open Go.RowKit
namespace ac
open wr (be16 be32)
open rd (num)
namespace FxAsNet
set_option maxRecDepth 100000
theorem fo42_0 : Program.fieldOff Try.prog 42 0 = some 0 := by kernel_rfl
theorem fo42_1 : Program.fieldOff Try.prog 42 1 = some 1 := by kernel_rfl
theorem fo42_2 : Program.fieldOff Try.prog 42 2 = some 2 := by kernel_rfl
theorem fo46_1 : Program.fieldOff Try.prog 46 1 = some 1 := by kernel_rfl
theorem fo46_2 : Program.fieldOff Try.prog 46 2 = some 2 := by kernel_rfl
theorem fo46_3 : Program.fieldOff Try.prog 46 3 = some 3 := by kernel_rfl
theorem fo46_6 : Program.fieldOff Try.prog 46 6 = some 6 := by kernel_rfl
theorem fo46_8 : Program.fieldOff Try.prog 46 8 = some 8 := by kernel_rfl
theorem sc24 : Program.isSc Try.prog 24 = true := by kernel_rfl
theorem sc44 : Program.isSc Try.prog 44 = true := by kernel_rfl
end FxAsNet
open Go.Proofs.Ytomplpdeeomehaa.sha.FxShaMac Go.Proofs.Ytomplpdeeomehaa.ac.FxAsO Go.Proofs.Ytomplpdeeomehaa.ac.FxAsA Go.Proofs.Ytomplpdeeomehaa.rd.FxWireR Go.Proofs.Ytomplpdeeomehaa.ac.FxAsS Go.Proofs.Ytomplpdeeomehaa.sha.FxShaSum FxAsNet
structure NP where
  a : Nat
  b : Nat
  ab : Sl Bs
  ba : Sl Bs
  sent : Sl Msg
  back : Sl Msg
  gB : Sl Msg
  gA : Sl Msg
  now : Int
def netC (n : NP) : Array Value := #[pt n.a 0, pt n.b 0, .slice n.ab.a n.ab.l.length n.ab.cap, .slice n.ba.a n.ba.l.length n.ba.cap, .slice n.sent.a n.sent.l.length n.sent.cap, .slice n.back.a n.back.l.length n.back.cap, .slice n.gB.a n.gB.l.length n.gB.cap, .slice n.gA.a n.gA.l.length n.gA.cap, vI n.now]
abbrev nB (nb : Nat) (n : NP) : SA := SA.blk nb (netC n) 46
abbrev oP (s : Sl Bs) : SA := SA.owns 23 1 (.slice s.a s.l.length s.cap) s.l.length (Dat.cs s.l)
abbrev rP (s : Sl Bs) : SA := SA.rdss (s.l.flatMap Dat.g)
abbrev oM (s : Sl Msg) : SA := SA.owns rmT 3 (.slice s.a s.l.length s.cap) s.l.length (Dat.cs s.l)
abbrev rMs (s : Sl Msg) : SA := SA.rdss (s.l.flatMap Dat.g)
def idxN (N : Int) (len : Nat) : Nat := (N % 18446744073709551616).toNat % len
theorem br_remU {m n : Nat} (h : 0 < n) : BR .rem .u64 (m : Int) .u64 (n : Int) (.int .u64 ((m % n : Nat) : Int)) := fun P w t => by
  have : ¬ (n = 0) := by omega
  simp [binOp, Op.intDiv, this, go_sem]
  exact Int.tmod_eq_emod_of_nonneg (by omega)
theorem cs_erase (l : List Bs) (k : Nat) (hk : k < l.length) : Dat.cs (l.take k) ++ ((Dat.cs l).drop ((k + 1) * 1)).take ((l.length - (k + 1)) * 1) = Dat.cs (l.eraseIdx k) := by
  have e : ((Dat.cs l).drop ((k + 1) * 1)).take ((l.length - (k + 1)) * 1) = Dat.cs (l.drop (k + 1)) := by
    rw [List.take_of_length_le (by rw [List.length_drop, Dat.cs_len]; show l.length * 1 - (k + 1) * 1 ≤ _; omega), Dat.cs_drop]; rfl
  rw [e, ← Dat.cs_app, List.eraseIdx_eq_take_drop_succ]
def netArg (kind N : Int) (keep : Bool) (d : Value) (nw : UInt16) : Array Value := #[vI kind, vI N, .bool keep, d, v16 nw]
theorem Ent.elP {xs : List Bs} {x : Bs} (hx : x ∈ xs) {L L1 : List SA} (h : Pull (SA.rdss (xs.flatMap Dat.g)) L L1) : Ent L (SA.rds 1 (.slice x.a x.l.length x.cap) x.l.length (x.l.map v8) :: SA.rdss (xs.flatMap Dat.g) :: L1) :=
  h.ent.trans ((Ent.rdss_sub (hs := Dat.g x) fun q hq => List.mem_flatMap.2 ⟨_, hx, hq⟩).trans ((Ent.bytesOf (s := x)).trans (Ent.under _ Ent.drop)))
theorem Ent.addAll {α : Type} [Dat α] {o : Sl α} {ys : List α} {L L1 L2 : List SA} (h1 : Pull (SA.rdss (ys.flatMap Dat.g)) L L1) (h2 : Pull (SA.dat o) L1 L2) : Ent L (SA.rdss ((ys ++ o.l).flatMap Dat.g) :: L2) := by
  rw [List.flatMap_append]
  exact h1.ent.trans ((Ent.under _ ((Ent.hang (a := o.a) (cap := o.cap) (l := o.l) h2).trans (Ent.under _ Ent.drop))).trans Ent.rdssApp)
end ac
end Go.Proofs.Ytomplpdeeomehaa


/- assoc: the net's step of the fourth kind, walked. -/
namespace Go.Proofs.Ytomplpdeeomehaa
set_option linter.unusedVariables false
set_option linter.unusedSimpArgs false
open Go.RowKit
namespace ac
open wr (be16 be32)
open rd (num)
namespace FxAsNet4
set_option maxRecDepth 100000
theorem fo46_0 : Program.fieldOff Try.prog 46 0 = some 0 := by kernel_rfl
theorem fo46_7 : Program.fieldOff Try.prog 46 7 = some 7 := by kernel_rfl
end FxAsNet4
open Go.Proofs.Ytomplpdeeomehaa.sha.FxShaMac Go.Proofs.Ytomplpdeeomehaa.ac.FxAsO Go.Proofs.Ytomplpdeeomehaa.ac.FxAsNet Go.Proofs.Ytomplpdeeomehaa.ac.FxAsA Go.Proofs.Ytomplpdeeomehaa.rd.FxWireR Go.Proofs.Ytomplpdeeomehaa.ac.FxAsS Go.Proofs.Ytomplpdeeomehaa.sha.FxShaSum FxAsNet4
end ac
end Go.Proofs.Ytomplpdeeomehaa


/- assoc: steps of the net where nothing is under way; begun, walked. -/
namespace Go.Proofs.Ytomplpdeeomehaa
set_option linter.unusedVariables false
set_option linter.unusedSimpArgs false
open Go.RowKit
namespace ac
open wr (be16 be32)
open rd (num)
open Go.Proofs.Ytomplpdeeomehaa.ac.FxAsNet Go.Proofs.Ytomplpdeeomehaa.ac.FxAsA
theorem step3_nil (nb : Nat) (n : NP) (N : Int) (kp : Bool) (d : Value) (hd : d.oneCell' = true) (nw : UInt16) (h : n.ab.l = []) (L : List SA) : Fn Try.prog 16 [pt nb 0, .agg (netArg 3 N kp d nw)] (nB nb n :: L) (fun _ L' => L' = nB nb n :: L) := by
  refine Fn.of (N := 367) Try.func16 rfl rfl ?_
  intro Xh
  refine TC.seq (TC.region ?_)
  refine TL.eff rfl rfl rfl (X.box (cs := netArg 3 N kp d nw) rfl rfl rfl) ?_
  rintro _ _ ⟨b3, rfl, rfl⟩
  refine TL.nil (TQ.next (TC.seq (TC.seq (TC.region ?_))))
  refine TL.val rfl rfl rfl (by first | exact Y.fieldAddrJ rfl fo42_0 rfl nqq | exact Y.fieldAddr rfl fo42_0 rfl nqq) ?_
  refine TL.val rfl rfl rfl (Y.load rfl sc3 rfl celN) ?_
  refine TL.as (vI 3) (by rfl) ?_
  refine TL.nil (TQ.next (TC.block (TC.seq (TC.seq (TC.region ?_)))))
  refine TL.val rfl rfl rfl (Y.bin rfl rfl rfl (br_eqN (n := 1))) ?_
  refine TL.is false isf ?_
  refine TL.sg ?_
  refine TL.nil (TQ.next ?_)
  refine TC.cond_f rfl ?_
  refine TC.region ?_
  refine TL.val rfl rfl rfl (Y.bin rfl rfl rfl (br_eqN (n := 2))) ?_
  refine TL.is false isf ?_
  refine TL.sg ?_
  refine TL.nil (TQ.next ?_)
  refine TC.cond_f rfl ?_
  refine TC.seq (TC.seq (TC.region ?_))
  refine TL.val rfl rfl rfl (Y.bin rfl rfl rfl (br_eqN (n := 3))) ?_
  refine TL.is true isf ?_
  refine TL.sg ?_
  refine TL.nil (TQ.next ?_)
  refine TC.cond_t rfl ?_
  refine TC.skip (TQ.next ?_)
  refine TC.cond_t rfl ?_
  refine TC.seq (TC.seq (TC.region ?_))
  refine TL.mv ?_
  refine TL.nc ?_
  refine TL.val rfl rfl rfl (by first | exact Y.fieldAddrJ rfl fo46_2 rfl nqq | exact Y.fieldAddr rfl fo46_2 rfl nqq) ?_
  refine TL.val rfl rfl rfl (Y.load rfl sc24 rfl celD) ?_
  refine TL.as (.slice n.ab.a n.ab.l.length n.ab.cap) (by rfl) ?_
  refine TL.val rfl rfl rfl (Y.len rfl Try.underlying24 rfl) ?_
  refine TL.val rfl rfl rfl (Y.bin rfl rfl rfl (br_eqN (n := 0))) ?_
  refine TL.is true (by (rw [h]; rfl)) ?_
  refine TL.nil (TQ.next ?_)
  refine TC.cond_t rfl ?_
  refine TC.ret (TQ.then_ret (TQ.block_ret (TQ.then_ret ?_)))
  refine TQ.retE (res0 rfl) (rfl) ?_
  exact ett
theorem step4_nil (nb : Nat) (n : NP) (N : Int) (kp : Bool) (d : Value) (hd : d.oneCell' = true) (nw : UInt16) (h : n.ba.l = []) (L : List SA) : Fn Try.prog 16 [pt nb 0, .agg (netArg 4 N kp d nw)] (nB nb n :: L) (fun _ L' => L' = nB nb n :: L) := by
  refine Fn.of (N := 367) Try.func16 rfl rfl ?_
  intro Xh
  refine TC.seq (TC.region ?_)
  refine TL.eff rfl rfl rfl (X.box (cs := netArg 4 N kp d nw) rfl rfl rfl) ?_
  rintro _ _ ⟨b3, rfl, rfl⟩
  refine TL.nil (TQ.next (TC.seq (TC.seq (TC.region ?_))))
  refine TL.val rfl rfl rfl (by first | exact Y.fieldAddrJ rfl fo42_0 rfl nqq | exact Y.fieldAddr rfl fo42_0 rfl nqq) ?_
  refine TL.val rfl rfl rfl (Y.load rfl sc3 rfl celN) ?_
  refine TL.as (vI 4) (by rfl) ?_
  refine TL.nil (TQ.next (TC.block (TC.seq (TC.seq (TC.region ?_)))))
  refine TL.val rfl rfl rfl (Y.bin rfl rfl rfl (br_eqN (n := 1))) ?_
  refine TL.is false isf ?_
  refine TL.sg ?_
  refine TL.nil (TQ.next ?_)
  refine TC.cond_f rfl ?_
  refine TC.region ?_
  refine TL.val rfl rfl rfl (Y.bin rfl rfl rfl (br_eqN (n := 2))) ?_
  refine TL.is false isf ?_
  refine TL.sg ?_
  refine TL.nil (TQ.next ?_)
  refine TC.cond_f rfl ?_
  refine TC.seq (TC.seq (TC.region ?_))
  refine TL.val rfl rfl rfl (Y.bin rfl rfl rfl (br_eqN (n := 3))) ?_
  refine TL.is false isf ?_
  refine TL.sg ?_
  refine TL.nil (TQ.next ?_)
  refine TC.cond_f rfl ?_
  refine TC.region ?_
  refine TL.val rfl rfl rfl (Y.bin rfl rfl rfl (br_eqN (n := 5))) ?_
  refine TL.is false isf ?_
  refine TL.sg ?_
  refine TL.nil (TQ.next ?_)
  refine TC.cond_f rfl ?_
  refine TC.seq (TC.seq (TC.region ?_))
  refine TL.val rfl rfl rfl (Y.bin rfl rfl rfl (br_eqN (n := 4))) ?_
  refine TL.is true isf ?_
  refine TL.sg ?_
  refine TL.nil (TQ.next ?_)
  refine TC.cond_t rfl ?_
  refine TC.skip (TQ.next ?_)
  refine TC.cond_t rfl ?_
  refine TC.seq (TC.seq (TC.region ?_))
  refine TL.mv ?_
  refine TL.nc ?_
  refine TL.val rfl rfl rfl (by first | exact Y.fieldAddrJ rfl fo46_3 rfl nqq | exact Y.fieldAddr rfl fo46_3 rfl nqq) ?_
  refine TL.val rfl rfl rfl (Y.load rfl sc24 rfl celD) ?_
  refine TL.as (.slice n.ba.a n.ba.l.length n.ba.cap) (by rfl) ?_
  refine TL.val rfl rfl rfl (Y.len rfl Try.underlying24 rfl) ?_
  refine TL.val rfl rfl rfl (Y.bin rfl rfl rfl (br_eqN (n := 0))) ?_
  refine TL.is true (by (rw [h]; rfl)) ?_
  refine TL.nil (TQ.next ?_)
  refine TC.cond_t rfl ?_
  refine TC.ret (TQ.then_ret (TQ.block_ret (TQ.then_ret ?_)))
  refine TQ.retE (res0 rfl) (rfl) ?_
  exact ett
theorem Ent.newS {b : Nat} {p : AP} {tag tsn : UInt32} {s : List UInt8} {L : List SA} : Ent (aB b p (newS tag tsn s) :: aS p (newS tag tsn s) :: aM p (newS tag tsn s) :: aQ p (newS tag tsn s) :: aD (newS tag tsn s) :: aH p (newS tag tsn s) :: L) (ac.SD b (abs (newS tag tsn s)) :: L) := Ent.SD rfl
theorem Start_fn (b : Nat) (S : PS) (now : Int) (h : S.state = 0) (L : List SA) : Fn Try.prog 23 [pt b 0, vI now] (SD b S :: L)
    (fun v L' => ∃ a c, v = .tuple #[.slice a 16 c, vN 0] ∧ L' = SA.owns 5 1 (.slice a 16 c) 16 ((initB S).map v8) :: SD b (S.started now) :: L) := by
  refine Fn.SD fun p T hT => ?_
  subst hT
  refine (Start_yes b p T now h _).mono ?_
  rintro v L' ⟨a, c, ha, hc, rfl, rfl⟩
  refine ⟨_, Ent.under _ (Ent.trans ?_ (Ent.SD (p := { p with ha := ha, hc := hc }) (T := T.started now) (S := (abs T).started now) rfl)), a, c, rfl, rfl⟩
  exact Ent.trans (show Ent (aB b { p with ha := ha, hc := hc } (T.started now) :: aH { p with ha := ha, hc := hc } (T.started now) :: aS p T :: aM p T :: aQ p T :: aD T :: aH p T :: L) (aH p T :: aB b { p with ha := ha, hc := hc } (T.started now) :: aS p T :: aM p T :: aQ p T :: aD T :: aH { p with ha := ha, hc := hc } (T.started now) :: L) by generalize aB b { p with ha := ha, hc := hc } (T.started now) = A; generalize aH { p with ha := ha, hc := hc } (T.started now) = H'; exact ett) Ent.drop
theorem inv_new (tag tsn : UInt32) {s : List UInt8} (hs : s.length ≤ 140737488351232) : InvA (abs (newS tag tsn s)) :=
  ⟨⟨Nat.le_refl _, Nat.zero_le _, Nat.zero_le _, win_none (fun _ => rfl) 32, hs, Nat.zero_le _, Nat.zero_le _, (by show (0 : Int) ≤ 0 ∧ (0 : Int) ≤ 8000; decide), fun x hx => by cases hx⟩, fun _ _ => rfl⟩
theorem inv_started {S : PS} (h : InvA S) (hs : S.state = 0) (now : Int) : InvA (S.started now) :=
  inv_starts ⟨⟨h.sent, h.s16, h.q32, h.near, h.secret, by show (initB S).length ≤ 1000; show 16 ≤ 1000; decide, h.fires, h.delay, h.short⟩, fun _ => h.none (by omega)⟩
end ac
end Go.Proofs.Ytomplpdeeomehaa


/- assoc: begun, walked. -/
namespace Go.Proofs.Ytomplpdeeomehaa
set_option linter.unusedVariables false
set_option linter.unusedSimpArgs false
open Go.RowKit
namespace ac
open wr (be16 be32)
open rd (num)
namespace FxAsBeg
set_option maxRecDepth 100000
theorem pl46 : Program.places Try.prog 46 = some [(0, 1), (1, 1), (2, 1), (3, 1), (4, 1), (5, 1), (6, 1), (7, 1), (8, 1)] := by kernel_rfl
theorem zc46 : Program.zeroC Try.prog 46 = some #[.pointer none, .pointer none, .slice none 0 0, .slice none 0 0, .slice none 0 0, .slice none 0 0, .slice none 0 0, .slice none 0 0, .int .i64 0] := by kernel_rfl
end FxAsBeg
open Go.Proofs.Ytomplpdeeomehaa.rd.FxWireR Go.Proofs.Ytomplpdeeomehaa.sha.FxShaMac Go.Proofs.Ytomplpdeeomehaa.ac.FxAsNet4 Go.Proofs.Ytomplpdeeomehaa.ac.FxAsNet Go.Proofs.Ytomplpdeeomehaa.ac.FxAsS FxAsBeg
def begA (tag tsn : UInt32) : PS := (abs (newS tag tsn [97])).started 0
def begB (other first : UInt32) : PS := abs (newS other first [98])
set_option maxHeartbeats 2000000 in
theorem begun_fn (tag tsn other first : UInt32) (L : List SA) : Fn Try.prog 15 [v32 tag, v32 tsn, v32 other, v32 first] L
    (fun v L' => ∃ (nb : Nat) (n : NP) (a : Option Addr) (c : Nat), v = pt nb 0 ∧ n.ab.l = [⟨a, c, initB (abs (newS tag tsn [97]))⟩] ∧ n.ba.l = [] ∧ n.sent.l = [] ∧ n.back.l = [] ∧ n.gB.l = [] ∧ n.gA.l = [] ∧ n.now = 0 ∧
      L' = nB nb n :: SD n.a (begA tag tsn) :: SD n.b (begB other first) :: oP n.ab :: rP n.ab :: oP n.ba :: rP n.ba :: oM n.sent :: rMs n.sent :: oM n.back :: rMs n.back :: oM n.gB :: rMs n.gB :: oM n.gA :: rMs n.gA :: L) := by
  refine Fn.of (N := 43) Try.func15 rfl rfl ?_
  intro Xh
  refine TC.seq (TC.region ?_)
  refine TL.sg ?_
  refine TL.nil (TQ.next (TC.seq (TC.region ?_)))
  refine TL.mv ?_
  refine TL.mv ?_
  refine TL.eff rfl rfl rfl (X.lit rfl el23 rfl rfl rfl (by decide) rfl) ?_
  rintro _ _ ⟨g14, rfl, rfl⟩
  refine TL.eff rfl rfl rfl (X.mark rfl Try.underlying23 Try.underlying5 rfl pul) ?_
  rintro _ _ ⟨rfl, rfl⟩
  refine TL.eff rfl rfl rfl (X.cl rfl Try.func11 rfl (h := (New_fn tag tsn (some ⟨g14, 0, none⟩) 1 1 [97] rfl (by decide) _))) ?_
  rintro _ _ ⟨b16, p16, rfl, rfl⟩
  refine TL.to Ent.newS ?_
  refine TL.mv ?_
  refine TL.mv ?_
  refine TL.eff rfl rfl rfl (X.lit rfl el23 rfl rfl rfl (by decide) rfl) ?_
  rintro _ _ ⟨g19, rfl, rfl⟩
  refine TL.eff rfl rfl rfl (X.mark rfl Try.underlying23 Try.underlying5 rfl pul) ?_
  rintro _ _ ⟨rfl, rfl⟩
  refine TL.eff rfl rfl rfl (X.cl rfl Try.func11 rfl (h := (New_fn other first (some ⟨g19, 0, none⟩) 1 1 [98] rfl (by decide) _))) ?_
  rintro _ _ ⟨b21, p21, rfl, rfl⟩
  refine TL.to Ent.newS ?_
  refine TL.val rfl rfl rfl (Y.buildS (cells := netC ⟨b16, b21, ⟨none, 0, []⟩, ⟨none, 0, []⟩, ⟨none, 0, []⟩, ⟨none, 0, []⟩, ⟨none, 0, []⟩, ⟨none, 0, []⟩, 0⟩) rfl rfl pl46 zc46 (by kernel_rfl)) ?_
  refine TL.eff rfl rfl rfl (X.boxA rfl rfl) ?_
  rintro _ _ ⟨b23, rfl, rfl⟩
  refine TL.sg ?_
  refine TL.nil (TQ.next (TC.seq (TC.region ?_)))
  refine TL.mv ?_
  refine TL.nc ?_
  refine TL.val rfl rfl rfl (by first | exact Y.fieldAddrJ rfl fo46_0 rfl nqq | exact Y.fieldAddr rfl fo46_0 rfl nqq) ?_
  refine TL.val rfl rfl rfl (Y.load rfl sc26 rfl celD) ?_
  refine TL.as (pt b16 0) (by rfl) ?_
  refine TL.eff rfl rfl rfl (X.cl rfl Try.func23 rfl (h := (Start_fn b16 (abs (newS tag tsn [97])) 0 rfl _))) ?_
  rintro _ _ ⟨sa, sc, rfl, rfl⟩
  refine TL.mv ?_
  refine TL.val rfl rfl rfl (Y.extract rfl rfl rfl) ?_
  refine TL.as (.slice sa 16 sc) (by rfl) ?_
  refine TL.val rfl rfl rfl (Y.extract rfl rfl rfl) ?_
  refine TL.sg ?_
  refine TL.sg ?_
  refine TL.nil (TQ.next (TC.seq ?_))
  refine TC.to (Ent.trans (Ent.nilOwn 23 1) Ent.rdss0) ?_
  refine TC.region ?_
  refine TL.mv ?_
  refine TL.mv ?_
  refine TL.nc ?_
  refine TL.val rfl rfl rfl (by first | exact Y.fieldAddrJ rfl fo46_2 rfl nqq | exact Y.fieldAddr rfl fo46_2 rfl nqq) ?_
  refine TL.val rfl rfl rfl (Y.load rfl sc24 rfl celD) ?_
  refine TL.as (.slice none 0 0) (by rfl) ?_
  refine TL.mv ?_
  refine TL.eff rfl rfl rfl (X.lit rfl el24 rfl rfl rfl (by decide) rfl) ?_
  rintro _ _ ⟨g38, rfl, rfl⟩
  refine TL.eff rfl rfl rfl (X.appendS rfl el24 rfl pul rfl (by first | exact Src.owns Try.underlying24 inn | exact Src.rds Try.underlying24 inn | exact Src.reads (by assumption) Try.underlying24 inn) (by simp only [maxLen]; omega) (by omega)) ?_
  rintro _ _ ⟨a39, c39, rfl, rfl⟩
  simp only [List.nil_append, Nat.zero_add]
  refine TL.nc ?_
  refine TL.val rfl rfl rfl (by first | exact Y.fieldAddrJ rfl fo46_2 rfl nqq | exact Y.fieldAddr rfl fo46_2 rfl nqq) ?_
  refine TL.eff0 rfl rfl (X.store (cs' := netC ⟨b16, b21, ⟨a39, c39, [⟨sa, sc, initB (abs (newS tag tsn [97]))⟩]⟩, ⟨none, 0, []⟩, ⟨none, 0, []⟩, ⟨none, 0, []⟩, ⟨none, 0, []⟩, ⟨none, 0, []⟩, 0⟩) rfl (by kernel_rfl) rfl rfl rfl pul (by show 2 < 9; decide) rfl) ?_
  rintro _ _ rfl
  refine TL.nil (TQ.next (TC.seq ?_))
  refine TC.to ((Pull.ent (A := SA.owns 5 1 (.slice sa 16 sc) 16 ((initB (abs (newS tag tsn [97]))).map v8)) pul).trans (Ent.freeze.trans (Ent.mkBytes rfl))) ?_
  refine TC.to (Ent.addEl (ys := ([] : List Bs)) (x := (⟨sa, sc, initB (abs (newS tag tsn [97]))⟩ : Bs)) pul pul) ?_
  refine TC.to (Ent.trans (Ent.nilOwn 23 1) Ent.rdss0) ?_
  refine TC.to (Ent.trans (Ent.nilOwn rmT 3) Ent.rdss0) ?_
  refine TC.to (Ent.trans (Ent.nilOwn rmT 3) Ent.rdss0) ?_
  refine TC.to (Ent.trans (Ent.nilOwn rmT 3) Ent.rdss0) ?_
  refine TC.to (Ent.trans (Ent.nilOwn rmT 3) Ent.rdss0) ?_
  refine TC.region ?_
  refine TL.mv ?_
  refine TL.sg ?_
  refine TL.nil (TQ.next (TC.ret ?_))
  refine TQ.retE (res1 rfl rfl) (⟨b23, ⟨b16, b21, ⟨a39, c39, [⟨sa, sc, initB (abs (newS tag tsn [97]))⟩]⟩, ⟨none, 0, []⟩, ⟨none, 0, []⟩, ⟨none, 0, []⟩, ⟨none, 0, []⟩, ⟨none, 0, []⟩, 0⟩, sa, sc, rfl, rfl, rfl, rfl, rfl, rfl, rfl, rfl, rfl⟩) ?_
  exact ett
end ac
end Go.Proofs.Ytomplpdeeomehaa


/- assoc: the handshake, as a law. -/
namespace Go.Proofs.Ytomplpdeeomehaa
set_option linter.unusedVariables false
set_option linter.unusedSimpArgs false
open Go.RowKit
namespace ac
open wr (be16 be32)
open rd (num)
theorem num_be32 (x : UInt32) : num (be32 x) = x := by
  apply UInt32.toNat_inj.1
  have hx := x.toNat_lt
  unfold be32
  rw [num4]
  simp only [shr32, UInt32.toNat_toUInt8]
  rw [UInt32.toNat_ofNat_of_lt' (by show _ < 4294967296; omega), UInt32.toNat_ofNat_of_lt' (by show _ < 4294967296; omega), UInt32.toNat_ofNat_of_lt' (by show _ < 4294967296; omega)]
  omega
theorem n32_at (p q : List UInt8) (x : UInt32) (k : Nat) (hp : p.length = k) : n32 (p ++ (be32 x ++ q)) k = x := by
  subst hp
  unfold n32
  rw [List.drop_left, show (be32 x ++ q).take 4 = be32 x from rfl, num_be32]
theorem n32_end (p : List UInt8) (x : UInt32) (k : Nat) (hp : p.length = k) : n32 (p ++ be32 x) k = x := by
  have := n32_at p [] x k hp
  rwa [List.append_nil] at this
theorem pkt_tag (t : UInt32) (k : UInt8) (q : List UInt8) : n32 (pkt t k ++ q) 0 = t := by
  have := n32_at [] (be32 (shl32 k.toUInt32 24) ++ q) t 0 rfl
  rw [List.nil_append] at this
  unfold pkt; rw [List.append_assoc]; exact this
theorem pkt_kind (t : UInt32) (k : UInt8) (q : List UInt8) : n32 (pkt t k ++ q) 4 = shl32 k.toUInt32 24 := by
  unfold pkt; rw [List.append_assoc]; exact n32_at (be32 t) q _ 4 rfl
theorem formed_pkt {t : UInt32} {k : UInt8} {q l : List UInt8} {kd : UInt32} (he : l = pkt t k ++ q) (hl : shl32 k.toUInt32 24 &&& 16777215 = 0) (hk : shr32 (shl32 k.toUInt32 24) 24 = kd) (h8 : kd.toUInt8 = k) (hf : fitsB k q.length = true) (ht : decide (t = 0) = decide (kd = 1)) : Formed l kd := by
  have h0 : n32 l 0 = t := by rw [he, pkt_tag]
  have h4 : n32 l 4 = shl32 k.toUInt32 24 := by rw [he, pkt_kind]
  have hlen : l.length = q.length + 8 := by rw [he, List.length_append, pkt_len, Nat.add_comm]
  clear he
  constructor
  · omega
  · rw [h4]; exact hl
  · rw [h4]; exact hk
  · rw [h8, hlen, Nat.add_sub_cancel]; exact hf
  · rw [h0]; exact ht
theorem tagOf_nz (t : UInt32) : tagOf t ≠ 0 := by unfold tagOf; split <;> simp_all
theorem drop8 (t : UInt32) (k : UInt8) (q : List UInt8) : (pkt t k ++ q).drop 8 = q := rfl
section
variable (tag tsn other first : UInt32)
theorem hs1 : (begB other first).handle 0 (initB (abs (newS tag tsn [97]))) = (begB other first, [(begB other first).initAckB (tagOf tag) tsn], [], 0) := by
  have e : initB (abs (newS tag tsn [97])) = pkt 0 1 ++ (be32 (tagOf tag) ++ be32 tsn) := by unfold initB; rw [List.append_assoc]; rfl
  rw [e]
  have hF : Formed (pkt 0 1 ++ (be32 (tagOf tag) ++ be32 tsn)) 1 := formed_pkt (k := 1) rfl (by decide) (by decide) (by decide) rfl (by decide)
  have n8 : n32 (pkt 0 1 ++ (be32 (tagOf tag) ++ be32 tsn)) 8 = tagOf tag := n32_at (pkt 0 1) (be32 tsn) _ 8 rfl
  have n12 : n32 (pkt 0 1 ++ (be32 (tagOf tag) ++ be32 tsn)) 12 = tsn := by
    rw [← List.append_assoc]; exact n32_end (pkt 0 1 ++ be32 (tagOf tag)) tsn 12 rfl
  rw [handle_ok hF, handle2_1y (by rw [n8]; exact tagOf_nz tag) (.inl rfl), n8, n12]
  rfl
def ck (tag tsn other first : UInt32) : List UInt8 := cookieB (begB other first) (tagOf tag) tsn
theorem ck_len : (ck tag tsn other first).length = 36 := cookieB_len _ _ _
def opA2 (tag tsn other first : UInt32) : PS := (begA tag tsn).echo (tagOf other) first (ck tag tsn other first)
theorem hs2 : (begA tag tsn).handle 0 ((begB other first).initAckB (tagOf tag) tsn) = (opA2 tag tsn other first, [echoB (tagOf other) (ck tag tsn other first)], [], 0) := by
  have e : (begB other first).initAckB (tagOf tag) tsn = pkt (tagOf tag) 2 ++ (be32 (tagOf other) ++ (be32 first ++ ck tag tsn other first)) := by
    unfold AS.initAckB; rw [List.append_assoc, List.append_assoc]; rfl
  rw [e]
  have hF : Formed (pkt (tagOf tag) 2 ++ (be32 (tagOf other) ++ (be32 first ++ ck tag tsn other first))) 2 := formed_pkt (k := 2) rfl (by decide) (by decide) (by decide) (by
    have h : (be32 (tagOf other) ++ (be32 first ++ ck tag tsn other first)).length = 44 := by rw [List.length_append, List.length_append, ck_len]; rfl
    rw [h]; rfl) (by simp [tagOf_nz])
  have n8 : n32 (pkt (tagOf tag) 2 ++ (be32 (tagOf other) ++ (be32 first ++ ck tag tsn other first))) 8 = tagOf other := n32_at (pkt (tagOf tag) 2) _ _ 8 rfl
  have n12 : n32 (pkt (tagOf tag) 2 ++ (be32 (tagOf other) ++ (be32 first ++ ck tag tsn other first))) 12 = first := by
    rw [← List.append_assoc]; exact n32_at (pkt (tagOf tag) 2 ++ be32 (tagOf other)) _ first 12 rfl
  have d16 : (pkt (tagOf tag) 2 ++ (be32 (tagOf other) ++ (be32 first ++ ck tag tsn other first))).drop 16 = ck tag tsn other first := rfl
  rw [handle_ok hF, handle2_2 (S := (begA tag tsn).clocked 0) (by rw [n8]; exact tagOf_nz other) (pkt_tag (tagOf tag) 2 _), if_neg (fun h => h rfl), n8, n12, d16]
  rfl
def opB (tag tsn other first : UInt32) : PS := (begB other first).opened (tagOf tag) tsn
theorem hs3 : (begB other first).handle 0 (echoB (tagOf other) (ck tag tsn other first)) = (opB tag tsn other first, [pkt (tagOf tag) 4], [], 0) := by
  have e : echoB (tagOf other) (ck tag tsn other first) = pkt (tagOf other) 3 ++ ck tag tsn other first := rfl
  rw [e]
  have hF : Formed (pkt (tagOf other) 3 ++ ck tag tsn other first) 3 := formed_pkt (k := 3) rfl (by decide) (by decide) (by decide) (by rw [ck_len]; rfl) (by simp [tagOf_nz])
  have e2 : ck tag tsn other first = be32 (tagOf tag) ++ (be32 tsn ++ (be32 (tagOf other) ++ be32 first ++ sha.mac [98] (ckB (begB other first) (tagOf tag) tsn))) := by
    unfold ck cookieB ckB; simp only [List.append_assoc]; rfl
  have n8 : n32 (pkt (tagOf other) 3 ++ ck tag tsn other first) 8 = tagOf tag := by rw [e2]; exact n32_at (pkt (tagOf other) 3) _ _ 8 rfl
  have n12 : n32 (pkt (tagOf other) 3 ++ ck tag tsn other first) 12 = tsn := by
    rw [e2, ← List.append_assoc]; exact n32_at (pkt (tagOf other) 3 ++ be32 (tagOf tag)) _ tsn 12 rfl
  rw [handle_ok hF, handle2_3 (S := (begB other first).clocked 0) (pkt_tag (tagOf other) 3 _), n8, n12, drop8, if_neg (fun h => h rfl), if_pos (show ((begB other first).clocked 0).state = 0 from rfl)]
  rfl
def opA (tag tsn other first : UInt32) : PS := { opA2 tag tsn other first with state := 3, tset := false }
theorem hs4 : (opA2 tag tsn other first).handle 0 (pkt (tagOf tag) 4) = (opA tag tsn other first, [], [], 0) := by
  rw [show pkt (tagOf tag) 4 = pkt (tagOf tag) 4 ++ [] from (List.append_nil _).symm]
  have hF : Formed (pkt (tagOf tag) 4 ++ []) 4 := formed_pkt (k := 4) rfl (by decide) (by decide) (by decide) rfl (by simp [tagOf_nz])
  rw [handle_ok hF, handle2_4 (S := (opA2 tag tsn other first).clocked 0) (pkt_tag (tagOf tag) 4 _), if_pos (show ((opA2 tag tsn other first).clocked 0).state = 2 from rfl)]
  rfl
end
end ac
end Go.Proofs.Ytomplpdeeomehaa


/- assoc: a side in numbers; what it does, plain. -/
namespace Go.Proofs.Ytomplpdeeomehaa
set_option linter.unusedVariables false
set_option linter.unusedSimpArgs false
open Go.RowKit
namespace ac
inductive Pk where
  | init
  | iack
  | echo
  | cack
  | data (i : Nat)
  | sack (c : Nat) (l : List Nat)
structure Q where
  state : Nat
  msgs : List PM
  acked : Nat
  sent : Nat
  come : Nat → Bool
  got : Nat
  kept : Nat → Bool
  clock : Int
  tset : Bool
  moment : Int
  delay : Int
  fires : Nat
namespace Q
variable (q : Q)
def clocked (now : Int) : Q := { q with clock := max q.clock now }
def starts : Q := { q with tset := true, moment := q.clock, delay := 1000, fires := 0 }
def len : Nat := q.msgs.length - q.acked
def win : List Nat := List.range' q.sent (min q.len 16 - q.sent)
def more : Q := if q.win ≠ [] ∧ q.tset = false then ({ q with sent := max q.sent (min q.len 16) } : Q).starts else { q with sent := max q.sent (min q.len 16) }
def moreOut : List Pk := q.win.map fun i => .data (q.acked + i)
def keep (i : Nat) : Q := if q.kept i = false ∧ q.got ≤ i ∧ i < q.got + 32 then { q with kept := fun j => decide (j = i) || q.kept j } else q
def step1 : Q := { q with got := q.got + 1, kept := fun j => q.kept j && !decide (j = q.got) }
def deliver : Nat → Q → Q
  | 0, q => q
  | f + 1, q => if q.kept q.got = true then deliver f q.step1 else q
def recv (i : Nat) : Q := (q.keep i).deliver 33
def beyond : List Nat := ((List.range 32).map fun d => q.got + d).filter fun i => q.kept i
def sackP : Pk := .sack q.got (q.beyond.take 16)
def left (c : Nat) : Bool := decide (q.acked < c ∧ c ≤ q.acked + q.sent)
def drop1 (c : Nat) : Q := if q.left c = true then { q with acked := c, sent := q.sent - (c - q.acked) } else q
def mark (i : Nat) : Q := if q.acked ≤ i ∧ i < q.acked + q.sent then { q with come := fun j => decide (j = i) || q.come j } else q
def ack1 (c : Nat) (l : List Nat) : Q := if q.left c = true then { (l.foldl mark (q.drop1 c)).starts with tset := decide (0 < (l.foldl mark (q.drop1 c)).sent) } else l.foldl mark (q.drop1 c)
def hand : Pk → Q × List Pk
  | .init => (q, if q.state = 0 ∨ q.state = 3 then [.iack] else [])
  | .iack => if q.state = 1 then (({ q with state := 2 } : Q).starts, [.echo]) else (q, [])
  | .echo => if q.state = 0 then ({ q with state := 3 }, [.cack]) else (q, if q.state = 3 then [.cack] else [])
  | .cack => (if q.state = 2 then { q with state := 3, tset := false } else q, [])
  | .data i => if q.state = 3 then (q.recv i, [(q.recv i).sackP]) else (q, [])
  | .sack c l => if q.state = 3 then ((q.ack1 c l).more, (q.ack1 c l).moreOut) else (q, [])
def handle (now : Int) (p : Pk) : Q × List Pk := (q.clocked now).hand p
def can (m : PM) : Prop := q.state = 3 ∧ m.2.2.length ≤ 1024 ∧ q.len ≠ 32
def taken (m : PM) (now : Int) : Q := { q with clock := max q.clock now, msgs := q.msgs ++ [m] }
open Classical in
noncomputable def send (m : PM) (now : Int) : Q × List Pk := if q.can m then ((q.taken m now).more, (q.taken m now).moreOut) else (q, [])
def due : Prop := q.tset = true ∧ ¬ (q.clock - q.moment) % 18446744073709551616 < q.delay
def fired : Q := { q with tset := true, moment := q.clock, delay := min (2 * q.delay) 8000, fires := q.fires + 1 }
def over : Q := { q with state := 4, tset := false }
def again : List Pk := ((List.range q.sent).filter fun i => !q.come (q.acked + i)).map fun i => .data (q.acked + i)
def shake : Pk := if q.state = 1 then .init else .echo
open Classical in
noncomputable def tick (now : Int) : Q × List Pk :=
  if ¬ (q.clocked now).due then (q.clocked now, [])
  else if q.fires = 8 then ((q.clocked now).over, [])
  else if q.state ≠ 3 then ((q.clocked now).fired, [q.shake])
  else ((q.clocked now).fired, q.again)
end Q
structure QB (q : Q) (ol : Nat) : Prop where
  win : q.acked + q.sent ≤ q.msgs.length
  s16 : q.sent ≤ 16
  q32 : q.msgs.length ≤ q.acked + 32
  ml : q.msgs.length ≤ 100000
  olm : ol ≤ 100000
  short : ∀ m ∈ q.msgs, m.2.2.length ≤ 1024
  come : ∀ i, q.come i = true → i < q.msgs.length
  kept : ∀ i, q.kept i = true → q.got < i ∧ i < q.got + 32 ∧ i < ol
  got : q.got ≤ ol
  tset : q.tset = true → 1 ≤ q.state ∧ q.state ≤ 3
  idle : q.state < 3 → q.got = 0 ∧ ∀ i, q.kept i = false
def PkOk (ml ol : Nat) : Pk → Prop
  | .data i => i < ml
  | .sack c l => c ≤ ol ∧ l.length ≤ 16 ∧ ∀ i ∈ l, i < ol
  | _ => True
section
variable {q : Q} {ol : Nat}
theorem QB.clocked (h : QB q ol) (now : Int) : QB (q.clocked now) ol := ⟨h.win, h.s16, h.q32, h.ml, h.olm, h.short, h.come, h.kept, h.got, h.tset, h.idle⟩
theorem Q.deliver_mono (f : Nat) : ∀ q : Q, q.got ≤ (q.deliver f).got := by
  induction f with
  | zero => intro q; exact Nat.le_refl _
  | succ f ih =>
    intro q
    rw [Q.deliver]
    split
    · exact Nat.le_trans (Nat.le_succ _) (ih q.step1)
    · exact Nat.le_refl _
theorem Q.deliver_same (f : Nat) : ∀ q : Q, (q.deliver f).state = q.state ∧ (q.deliver f).msgs = q.msgs ∧ (q.deliver f).acked = q.acked ∧ (q.deliver f).sent = q.sent ∧ (q.deliver f).come = q.come ∧ (q.deliver f).clock = q.clock ∧ (q.deliver f).tset = q.tset ∧ (q.deliver f).moment = q.moment ∧ (q.deliver f).delay = q.delay ∧ (q.deliver f).fires = q.fires := by
  induction f with
  | zero => intro q; exact ⟨rfl, rfl, rfl, rfl, rfl, rfl, rfl, rfl, rfl, rfl⟩
  | succ f ih =>
    intro q
    rw [Q.deliver]
    split
    · exact ih q.step1
    · exact ⟨rfl, rfl, rfl, rfl, rfl, rfl, rfl, rfl, rfl, rfl⟩
theorem Q.keep_same (q : Q) (i : Nat) : (q.keep i).state = q.state ∧ (q.keep i).msgs = q.msgs ∧ (q.keep i).acked = q.acked ∧ (q.keep i).sent = q.sent ∧ (q.keep i).come = q.come ∧ (q.keep i).clock = q.clock ∧ (q.keep i).tset = q.tset ∧ (q.keep i).moment = q.moment ∧ (q.keep i).delay = q.delay ∧ (q.keep i).fires = q.fires ∧ (q.keep i).got = q.got := by
  unfold Q.keep
  split <;> exact ⟨rfl, rfl, rfl, rfl, rfl, rfl, rfl, rfl, rfl, rfl, rfl⟩
theorem Q.recv_same (q : Q) (i : Nat) : (q.recv i).state = q.state ∧ (q.recv i).msgs = q.msgs ∧ (q.recv i).acked = q.acked ∧ (q.recv i).sent = q.sent ∧ (q.recv i).come = q.come ∧ (q.recv i).clock = q.clock ∧ (q.recv i).tset = q.tset ∧ (q.recv i).moment = q.moment ∧ (q.recv i).delay = q.delay ∧ (q.recv i).fires = q.fires := by
  obtain ⟨a1, a2, a3, a4, a5, a6, a7, a8, a9, a10⟩ := Q.deliver_same 33 (q.keep i)
  obtain ⟨b1, b2, b3, b4, b5, b6, b7, b8, b9, b10, b11⟩ := Q.keep_same q i
  exact ⟨a1.trans b1, a2.trans b2, a3.trans b3, a4.trans b4, a5.trans b5, a6.trans b6, a7.trans b7, a8.trans b8, a9.trans b9, a10.trans b10⟩
def Mid (q : Q) (b ol : Nat) : Prop := q.got ≤ ol ∧ ∀ i, q.kept i = true → q.got ≤ i ∧ i < b ∧ i < ol
theorem Mid.deliver {b : Nat} (f : Nat) : ∀ q : Q, Mid q b ol → b + 1 ≤ q.got + f → Mid (q.deliver f) b ol ∧ (q.deliver f).kept (q.deliver f).got = false := by
  induction f with
  | zero =>
    intro q h hf
    refine ⟨h, ?_⟩
    cases hk : q.kept q.got with
    | false => exact hk
    | true => have := h.2 _ hk; omega
  | succ f ih =>
    intro q h hf
    rw [Q.deliver]
    split
    · rename_i hk
      have hg := h.2 _ hk
      refine ih q.step1 ⟨by show q.got + 1 ≤ ol; omega, fun i hi => ?_⟩ (by show b + 1 ≤ q.got + 1 + f; omega)
      have hi2 : q.kept i = true ∧ ¬ i = q.got := by simpa [Q.step1] using hi
      have := h.2 i hi2.1
      exact ⟨by show q.got + 1 ≤ i; omega, this.2⟩
    · rename_i hk
      exact ⟨h, by simpa using hk⟩
theorem QB.keepMid (h : QB q ol) (i : Nat) (hi : i < ol) : Mid (q.keep i) (q.got + 32) ol := by
  unfold Q.keep
  split
  · rename_i hc
    refine ⟨h.got, fun j hj => ?_⟩
    have hj2 : j = i ∨ q.kept j = true := by simpa using hj
    rcases hj2 with rfl | hj2
    · exact ⟨hc.2.1, hc.2.2, hi⟩
    · have := h.kept j hj2; exact ⟨by show q.got ≤ j; omega, this.2.1, this.2.2⟩
  · exact ⟨h.got, fun j hj => by have := h.kept j hj; exact ⟨by omega, this.2.1, this.2.2⟩⟩
theorem QB.recv (h : QB q ol) (hs : q.state = 3) (i : Nat) (hi : i < ol) : QB (q.recv i) ol := by
  obtain ⟨e1, e2, e3, e4, e5, e6, e7, e8, e9, e10⟩ := Q.recv_same q i
  have hk := Q.keep_same q i
  obtain ⟨m1, m2⟩ := Mid.deliver 33 (q.keep i) (h.keepMid i hi) (by rw [hk.2.2.2.2.2.2.2.2.2.2]; omega)
  have hm : q.got ≤ (q.recv i).got := by have := Q.deliver_mono 33 (q.keep i); rwa [hk.2.2.2.2.2.2.2.2.2.2] at this
  refine ⟨by rw [e3, e4, e2]; exact h.win, by rw [e4]; exact h.s16, by rw [e2, e3]; exact h.q32, by rw [e2]; exact h.ml, h.olm, by rw [e2]; exact h.short, by rw [e5, e2]; exact h.come, fun j hj => ?_, m1.1, by rw [e7, e1]; exact h.tset, fun hx => by rw [e1] at hx; omega⟩
  have hj2 := m1.2 j hj
  have hne : j ≠ (q.recv i).got := fun e => by
    have h1 : (q.recv i).kept (q.recv i).got = false := m2
    rw [← e, hj] at h1; cases h1
  have h3 : (q.recv i).got ≤ j := hj2.1
  exact ⟨by omega, by omega, hj2.2.2⟩
theorem QB.drop1 (h : QB q ol) (c : Nat) : QB (q.drop1 c) ol := by
  have h1 := h.win; have h2 := h.s16; have h3 := h.q32
  unfold Q.drop1
  split
  · rename_i hl
    have hl : q.acked < c ∧ c ≤ q.acked + q.sent := of_decide_eq_true hl
    exact ⟨by show c + (q.sent - (c - q.acked)) ≤ q.msgs.length; omega, by show q.sent - (c - q.acked) ≤ 16; omega, by show q.msgs.length ≤ c + 32; omega, h.ml, h.olm, h.short, h.come, h.kept, h.got, h.tset, h.idle⟩
  · exact h
theorem QB.mark (h : QB q ol) (k : Nat) : QB (q.mark k) ol := by
  have h1 := h.win
  unfold Q.mark
  split
  · refine ⟨h.win, h.s16, h.q32, h.ml, h.olm, h.short, fun i hi => ?_, h.kept, h.got, h.tset, h.idle⟩
    have hi2 : i = k ∨ q.come i = true := by simpa using hi
    rcases hi2 with rfl | hi2
    · show i < q.msgs.length; omega
    · exact h.come i hi2
  · exact h
theorem QB.marks (l : List Nat) : ∀ {q : Q}, QB q ol → QB (l.foldl Q.mark q) ol := by
  induction l with
  | nil => intro q h; exact h
  | cons k l ih => intro q h; exact ih (h.mark k)
theorem Q.mark_same (q : Q) (k : Nat) : (q.mark k).state = q.state ∧ (q.mark k).msgs = q.msgs ∧ (q.mark k).acked = q.acked ∧ (q.mark k).sent = q.sent ∧ (q.mark k).got = q.got ∧ (q.mark k).kept = q.kept ∧ (q.mark k).clock = q.clock ∧ (q.mark k).tset = q.tset ∧ (q.mark k).moment = q.moment ∧ (q.mark k).delay = q.delay ∧ (q.mark k).fires = q.fires := by
  unfold Q.mark; split <;> exact ⟨rfl, rfl, rfl, rfl, rfl, rfl, rfl, rfl, rfl, rfl, rfl⟩
theorem Q.marks_same (l : List Nat) : ∀ q : Q, (l.foldl Q.mark q).state = q.state ∧ (l.foldl Q.mark q).msgs = q.msgs ∧ (l.foldl Q.mark q).acked = q.acked ∧ (l.foldl Q.mark q).sent = q.sent ∧ (l.foldl Q.mark q).got = q.got ∧ (l.foldl Q.mark q).kept = q.kept ∧ (l.foldl Q.mark q).clock = q.clock ∧ (l.foldl Q.mark q).tset = q.tset ∧ (l.foldl Q.mark q).moment = q.moment ∧ (l.foldl Q.mark q).delay = q.delay ∧ (l.foldl Q.mark q).fires = q.fires := by
  induction l with
  | nil => intro q; exact ⟨rfl, rfl, rfl, rfl, rfl, rfl, rfl, rfl, rfl, rfl, rfl⟩
  | cons k l ih =>
    intro q
    obtain ⟨a1, a2, a3, a4, a5, a6, a7, a8, a9, a10, a11⟩ := ih (q.mark k)
    obtain ⟨b1, b2, b3, b4, b5, b6, b7, b8, b9, b10, b11⟩ := Q.mark_same q k
    exact ⟨a1.trans b1, a2.trans b2, a3.trans b3, a4.trans b4, a5.trans b5, a6.trans b6, a7.trans b7, a8.trans b8, a9.trans b9, a10.trans b10, a11.trans b11⟩
theorem Q.drop1_same (q : Q) (c : Nat) : (q.drop1 c).state = q.state ∧ (q.drop1 c).msgs = q.msgs ∧ (q.drop1 c).got = q.got ∧ (q.drop1 c).kept = q.kept ∧ (q.drop1 c).clock = q.clock ∧ (q.drop1 c).tset = q.tset ∧ (q.drop1 c).come = q.come ∧ (q.drop1 c).moment = q.moment ∧ (q.drop1 c).delay = q.delay ∧ (q.drop1 c).fires = q.fires := by
  unfold Q.drop1; split <;> exact ⟨rfl, rfl, rfl, rfl, rfl, rfl, rfl, rfl, rfl, rfl⟩
theorem QB.ack1 (h : QB q ol) (hs : q.state = 3) (c : Nat) (l : List Nat) : QB (q.ack1 c l) ol := by
  have h1 := QB.marks l (h.drop1 c)
  have e := Q.marks_same l (q.drop1 c)
  have e2 := Q.drop1_same q c
  unfold Q.ack1
  split
  · exact ⟨h1.win, h1.s16, h1.q32, h1.ml, h1.olm, h1.short, h1.come, h1.kept, h1.got, fun _ => by show 1 ≤ (l.foldl Q.mark (q.drop1 c)).state ∧ (l.foldl Q.mark (q.drop1 c)).state ≤ 3; rw [e.1, e2.1, hs]; decide, h1.idle⟩
  · exact h1
theorem Q.ack1_same (q : Q) (c : Nat) (l : List Nat) : (q.ack1 c l).state = q.state ∧ (q.ack1 c l).msgs = q.msgs ∧ (q.ack1 c l).got = q.got ∧ (q.ack1 c l).kept = q.kept ∧ (q.ack1 c l).clock = q.clock := by
  obtain ⟨a1, a2, a3, a4, a5, a6, a7, a8⟩ := Q.marks_same l (q.drop1 c)
  obtain ⟨b1, b2, b3, b4, b5, b6⟩ := Q.drop1_same q c
  unfold Q.ack1
  split
  · exact ⟨a1.trans b1, a2.trans b2, a5.trans b3, a6.trans b4, a7.trans b5⟩
  · exact ⟨a1.trans b1, a2.trans b2, a5.trans b3, a6.trans b4, a7.trans b5⟩
theorem Q.more_same (q : Q) : q.more.state = q.state ∧ q.more.msgs = q.msgs ∧ q.more.got = q.got ∧ q.more.kept = q.kept ∧ q.more.clock = q.clock ∧ q.more.acked = q.acked ∧ q.more.come = q.come ∧ q.more.sent = max q.sent (min q.len 16) := by
  unfold Q.more; split <;> exact ⟨rfl, rfl, rfl, rfl, rfl, rfl, rfl, rfl⟩
theorem QB.more (h : QB q ol) (hs : q.state = 3) : QB q.more ol := by
  obtain ⟨e1, e2, e3, e4, e5, e6, e7, e8⟩ := Q.more_same q
  have h1 := h.win; have h2 := h.s16
  have h3 : q.len = q.msgs.length - q.acked := rfl
  refine ⟨by rw [e6, e8, e2]; omega, by rw [e8]; omega, by rw [e2, e6]; exact h.q32, by rw [e2]; exact h.ml, h.olm, by rw [e2]; exact h.short, by rw [e7, e2]; exact h.come, by rw [e4, e3]; exact h.kept, by rw [e3]; exact h.got, fun _ => by rw [e1, hs]; decide, fun hx => by rw [e1, hs] at hx; omega⟩
theorem QB.hand (h : QB q ol) (p : Pk) (hp : PkOk ol q.msgs.length p) : QB (q.hand p).1 ol := by
  cases p with
  | init => exact h
  | iack =>
    unfold Q.hand; simp only
    split
    · rename_i hs
      exact ⟨h.win, h.s16, h.q32, h.ml, h.olm, h.short, h.come, h.kept, h.got, fun _ => by show 1 ≤ 2 ∧ 2 ≤ 3; decide, fun _ => h.idle (by omega)⟩
    · exact h
  | echo =>
    unfold Q.hand; simp only
    split
    · rename_i hs
      exact ⟨h.win, h.s16, h.q32, h.ml, h.olm, h.short, h.come, h.kept, h.got, fun _ => by show 1 ≤ 3 ∧ 3 ≤ 3; decide, fun hx => absurd (show (3 : Nat) < 3 from hx) (by decide)⟩
    · exact h
  | cack =>
    unfold Q.hand; simp only
    split
    · rename_i hs
      exact ⟨h.win, h.s16, h.q32, h.ml, h.olm, h.short, h.come, h.kept, h.got, fun hx => absurd (show false = true from hx) (by decide), fun hx => absurd (show (3 : Nat) < 3 from hx) (by decide)⟩
    · exact h
  | data i =>
    unfold Q.hand; simp only
    split
    · rename_i hs; exact h.recv hs i hp
    · exact h
  | sack c l =>
    unfold Q.hand; simp only
    split
    · rename_i hs
      exact (h.ack1 hs c l).more ((Q.ack1_same q c l).1.trans hs)
    · exact h
theorem QB.handle (h : QB q ol) (now : Int) (p : Pk) (hp : PkOk ol q.msgs.length p) : QB (q.handle now p).1 ol := (h.clocked now).hand p hp
theorem QB.send (h : QB q ol) (m : PM) (now : Int) (hl : q.msgs.length < 100000) : QB (q.send m now).1 ol := by
  unfold Q.send
  split
  · rename_i hc
    obtain ⟨c1, c2, c3⟩ := hc
    have h1 := h.win; have h2 := h.q32
    have h3 : q.len = q.msgs.length - q.acked := rfl
    refine QB.more (q := q.taken m now) ⟨?_, h.s16, ?_, ?_, h.olm, ?_, ?_, h.kept, h.got, h.tset, h.idle⟩ c1
    · show q.acked + q.sent ≤ (q.msgs ++ [m]).length; rw [List.length_append]; omega
    · show (q.msgs ++ [m]).length ≤ q.acked + 32; rw [List.length_append]; show q.msgs.length + 1 ≤ _; omega
    · show (q.msgs ++ [m]).length ≤ 100000; rw [List.length_append]; show q.msgs.length + 1 ≤ _; omega
    · intro x hx
      rcases List.mem_append.1 hx with hx | hx
      · exact h.short x hx
      · rw [List.mem_singleton.1 hx]; exact c2
    · intro i hi
      have := h.come i hi
      show i < (q.msgs ++ [m]).length; rw [List.length_append]; omega
  · exact h
theorem QB.tick (h : QB q ol) (now : Int) : QB (q.tick now).1 ol := by
  unfold Q.tick
  split
  · exact h.clocked now
  rename_i hd
  have hd : (q.clocked now).due := Classical.not_not.1 hd
  split
  · exact ⟨h.win, h.s16, h.q32, h.ml, h.olm, h.short, h.come, h.kept, h.got, fun hx => absurd (show false = true from hx) (by decide), fun hx => absurd (show (4 : Nat) < 3 from hx) (by decide)⟩
  have hf : QB (q.clocked now).fired ol := ⟨h.win, h.s16, h.q32, h.ml, h.olm, h.short, h.come, h.kept, h.got, fun _ => h.tset hd.1, h.idle⟩
  split <;> exact hf
theorem QB.grow {ol' : Nat} (h : QB q ol) (h1 : ol ≤ ol') (h2 : ol' ≤ 100000) : QB q ol' :=
  ⟨h.win, h.s16, h.q32, h.ml, h2, h.short, h.come, fun i hi => by have := h.kept i hi; exact ⟨this.1, this.2.1, by omega⟩, Nat.le_trans h.got h1, h.tset, h.idle⟩
end
end ac
end Go.Proofs.Ytomplpdeeomehaa


/- assoc: a side and its numbers: what it does is what they say. -/
namespace Go.Proofs.Ytomplpdeeomehaa
set_option linter.unusedVariables false
set_option linter.unusedSimpArgs false
open Go.RowKit
namespace ac
open wr (be16 be32)
open rd (num)
structure SP where
  t : UInt32
  n : UInt32
  ot : UInt32
  on : UInt32
  ck : List UInt8
def SP.flip (P : SP) : SP := ⟨P.ot, P.on, P.t, P.n, P.ck⟩
def enc (P : SP) (ms : List PM) : Pk → List UInt8
  | .init => pkt 0 1 ++ (be32 P.t ++ (be32 P.n ++ []))
  | .iack => pkt P.ot 2 ++ (be32 P.t ++ (be32 P.n ++ P.ck))
  | .echo => pkt P.ot 3 ++ P.ck
  | .cack => pkt P.ot 4 ++ []
  | .data i => pkt P.ot 5 ++ (be32 (P.n + UInt32.ofNat i) ++ (be16 (ms.getD i pdef).1 ++ (be32 (ms.getD i pdef).2.1 ++ (ms.getD i pdef).2.2)))
  | .sack c l => pkt P.ot 6 ++ (be32 (P.on - 1 + UInt32.ofNat c) ++ (l.map fun i => P.on + UInt32.ofNat i).flatMap be32)
/-! ### numbers -/
theorem u_off (n : UInt32) (i : Nat) (hi : i < 4294967296) : (n + UInt32.ofNat i - n).toNat = i := by
  have : n + UInt32.ofNat i - n = UInt32.ofNat i := by grind
  rw [this, UInt32.toNat_ofNat_of_lt' (by show i < 4294967296; exact hi)]
theorem u_on (n k : UInt32) : k = n + UInt32.ofNat (k - n).toNat := by rw [UInt32.ofNat_toNat]; grind
theorem u_diff (a b : Nat) (ha : a < 2147483648) (hb : b < 2147483648) : (UInt32.ofNat a - UInt32.ofNat b).toNat = if b ≤ a then a - b else 4294967296 - (b - a) := by
  rw [UInt32.toNat_sub, UInt32.toNat_ofNat_of_lt' (by show _ < 4294967296; omega), UInt32.toNat_ofNat_of_lt' (by show _ < 4294967296; omega)]
  split <;> omega
theorem u_add (n : UInt32) (a b : Nat) : n + UInt32.ofNat a + UInt32.ofNat b = n + UInt32.ofNat (a + b) := by rw [UInt32.ofNat_add]; grind
theorem u_nat {a : Nat} (h : a < 4294967296) : (UInt32.ofNat a).toNat = a := UInt32.toNat_ofNat_of_lt' (by show a < 4294967296; exact h)
theorem words_flat (l : List UInt32) : words (l.flatMap be32) = l := by
  induction l with
  | nil => rfl
  | cons x l ih =>
    rw [List.flatMap_cons, words_s (by rw [List.length_append]; show 4 ≤ 4 + _; omega)]
    rw [show (be32 x ++ l.flatMap be32).take 4 = be32 x from rfl, show (be32 x ++ l.flatMap be32).drop 4 = l.flatMap be32 from rfl, num_be32, ih]
theorem num_be16 (x : UInt16) : (num (be16 x)).toUInt16 = x := by
  apply UInt16.toNat_inj.1
  have hx := x.toNat_lt
  have e0 : rd.num1 0 0 = 0 := by decide
  have e1 : ∀ a b : UInt8, num [a, b] = num [0, 0, a, b] := fun a b => by
    simp only [num, List.foldl_cons, List.foldl_nil, e0]
  unfold be16
  rw [e1, UInt32.toNat_toUInt16, num4]
  simp only [shr16, UInt16.toNat_toUInt8]
  rw [UInt16.toNat_ofNat_of_lt' (by show _ < 65536; omega)]
  show (((0 * 256 + 0) * 256 + _) * 256 + _) % 65536 = _
  omega
/-! ### a side and its numbers -/
structure R (P : SP) (bs : Bool) (S : PS) (q : Q) (om : List PM) : Prop where
  tag : S.tag = P.t
  first : S.first = P.n
  state : S.state = q.state
  base : S.base = P.n + UInt32.ofNat q.acked
  queue : S.queue.map (·.1) = q.msgs.drop q.acked
  come : ∀ i, i < q.len → comeAt S.queue i = q.come (q.acked + i)
  sent : S.sent = q.sent
  clock : S.clock = q.clock
  tset : S.tset = q.tset
  moment : S.moment = q.moment
  delay : S.delay = q.delay
  fires : S.fires = q.fires
  op : q.state = 2 ∨ q.state = 3 → S.other = P.ot ∧ S.top = P.on - 1 + UInt32.ofNat q.got
  kept : S.kept = fun t => if q.kept (t - P.on).toNat = true then om[(t - P.on).toNat]? else none
  shake1 : q.state = 1 → S.shake = enc P [] .init
  shake2 : q.state = 2 → S.shake = enc P [] .echo
  cook : bs = true → cookieB S P.ot P.on = P.ck
section
variable {P : SP} {bs : Bool} {S : PS} {q : Q} {om : List PM}
theorem R.len (h : R P bs S q om) : S.queue.length = q.len := by
  have := congrArg List.length h.queue
  rwa [List.length_map, List.length_drop] at this
theorem R.clocked (h : R P bs S q om) (now : Int) : R P bs (S.clocked now) (q.clocked now) om := { h with clock := by show max S.clock now = max q.clock now; rw [h.clock] }
theorem R.starts (h : R P bs S q om) : R P bs S.starts q.starts om := { h with tset := rfl, moment := h.clock, delay := rfl, fires := rfl }
theorem R.look (h : R P bs S q om) (i : Nat) (hi : i < 4294967296) : S.kept (P.on + UInt32.ofNat i) = if q.kept i = true then om[i]? else none := by
  rw [h.kept]; simp only [u_off P.on i hi]
theorem R.keep (h : R P bs S q om) (hb : QB q om.length) (hs : q.state = 3) (i : Nat) (hi : i < om.length) : R P bs (S.keep (P.on + UInt32.ofNat i) (om.getD i pdef)) (q.keep i) om := by
  have ho := hb.olm; have hg := hb.got
  have e1 : (S.kept (P.on + UInt32.ofNat i)).isNone = true ↔ q.kept i = false := by
    rw [h.look i (by omega)]
    cases hk : q.kept i with
    | false => simp
    | true => simp [hi]
  have e2 : P.on + UInt32.ofNat i - S.top - 1 < 32 ↔ q.got ≤ i ∧ i < q.got + 32 := by
    rw [(h.op (.inr hs)).2, show P.on + UInt32.ofNat i - (P.on - 1 + UInt32.ofNat q.got) - 1 = UInt32.ofNat i - UInt32.ofNat q.got by grind, UInt32.lt_iff_toNat_lt, u_diff i q.got (by omega) (by omega), show (32 : UInt32).toNat = 32 from rfl]
    split <;> omega
  unfold AS.keep Q.keep
  by_cases hc : q.kept i = false ∧ q.got ≤ i ∧ i < q.got + 32
  · rw [if_pos ⟨e1.2 hc.1, e2.2 hc.2⟩, if_pos hc]
    refine { h with kept := ?_ }
    funext k
    show mput S.kept (P.on + UInt32.ofNat i) (om.getD i pdef) k = if (decide ((k - P.on).toNat = i) || q.kept (k - P.on).toNat) = true then om[(k - P.on).toNat]? else none
    unfold mput
    by_cases hk : k = P.on + UInt32.ofNat i
    · subst hk
      rw [if_pos rfl, u_off P.on i (by omega)]
      simp [hi]
    · have hk2 : ¬ (k - P.on).toNat = i := fun e => hk (by rw [← e]; exact u_on P.on k)
      rw [if_neg hk, h.kept]
      simp [hk2]
  · rw [if_neg (fun x => hc ⟨e1.1 x.1, e2.1 x.2⟩), if_neg hc]; exact h
theorem R.step1 (h : R P bs S q om) (hs : q.state = 3) (hg : q.got < 4294967295) : R P bs S.step1 q.step1 om := by
  have ht : S.top + 1 = P.on + UInt32.ofNat q.got := by rw [(h.op (.inr hs)).2]; grind
  refine { h with op := fun _ => ⟨(h.op (.inr hs)).1, ?_⟩, kept := ?_ }
  · show S.top + 1 = P.on - 1 + UInt32.ofNat (q.got + 1)
    rw [ht, UInt32.ofNat_add]
    have : UInt32.ofNat 1 = 1 := rfl
    grind
  · funext k
    show mdel S.kept (S.top + 1) k = if (q.kept (k - P.on).toNat && !decide ((k - P.on).toNat = q.got)) = true then om[(k - P.on).toNat]? else none
    unfold mdel
    rw [ht]
    by_cases hk : k = P.on + UInt32.ofNat q.got
    · subst hk
      rw [if_pos rfl, u_off P.on q.got (by omega)]
      simp
    · have hk2 : ¬ (k - P.on).toNat = q.got := fun e => hk (by rw [← e]; exact u_on P.on k)
      rw [if_neg hk, h.kept]
      simp [hk2]
theorem R.deliver (f : Nat) : ∀ {S : PS} {q : Q}, R P bs S q om → q.state = 3 → om.length ≤ 100000 → (∀ i, q.kept i = true → i < om.length) → q.got ≤ om.length →
    R P bs (S.deliver f).2 (q.deliver f) om ∧ (S.deliver f).1 = (om.drop q.got).take ((q.deliver f).got - q.got) := by
  induction f with
  | zero => intro S q h _ _ _ _; exact ⟨h, by show [] = List.take (q.got - q.got) _; rw [Nat.sub_self, List.take_zero]⟩
  | succ f ih =>
    intro S q h hs ho hk hg
    have ht : S.top + 1 = P.on + UInt32.ofNat q.got := by rw [(h.op (.inr hs)).2]; grind
    rw [AS.deliver, Q.deliver, ht, h.look q.got (by omega)]
    cases hc : q.kept q.got with
    | false => exact ⟨h, by show [] = List.take (q.got - q.got) _; rw [Nat.sub_self, List.take_zero]⟩
    | true =>
      have hlt := hk _ hc
      rw [if_pos rfl, if_pos rfl, List.getElem?_eq_getElem hlt]
      have hk2 : ∀ i, q.step1.kept i = true → i < om.length := fun i hi => by
        have hi2 : q.kept i = true ∧ ¬ i = q.got := by simpa [Q.step1] using hi
        exact hk i hi2.1
      obtain ⟨g1, g2⟩ := ih (h.step1 hs (by omega)) hs ho hk2 (by show q.got + 1 ≤ _; omega)
      refine ⟨g1, ?_⟩
      show om[q.got] :: (S.step1.deliver f).1 = _
      have hm := Q.deliver_mono f q.step1
      have hm2 : q.got + 1 ≤ (q.step1.deliver f).got := hm
      rw [g2, show q.step1.got = q.got + 1 from rfl, List.drop_eq_getElem_cons hlt, show (q.step1.deliver f).got - q.got = ((q.step1.deliver f).got - (q.got + 1)) + 1 by omega, List.take_succ_cons]
theorem R.recv (h : R P bs S q om) (hb : QB q om.length) (hs : q.state = 3) (i : Nat) (hi : i < om.length) :
    R P bs (S.recv (P.on + UInt32.ofNat i) (om.getD i pdef)).2 (q.recv i) om ∧ (S.recv (P.on + UInt32.ofNat i) (om.getD i pdef)).1 = (om.drop q.got).take ((q.recv i).got - q.got) := by
  have hk := Q.keep_same q i
  have hm := hb.keepMid i hi
  have := R.deliver 33 (h.keep hb hs i hi) (hk.1.trans hs) hb.olm (fun j hj => (hm.2 j hj).2.2) hm.1
  rwa [hk.2.2.2.2.2.2.2.2.2.2] at this
theorem R.beyond (h : R P bs S q om) (hs : q.state = 3) (hg : q.got ≤ 100000) (hk : ∀ i, q.kept i = true → i < om.length) : S.beyond = q.beyond.map fun i => P.on + UInt32.ofNat i := by
  unfold AS.beyond Q.beyond
  rw [List.filter_map, List.filter_map, List.map_map, List.map_congr_left (f := fun d => S.top + 1 + UInt32.ofNat d) (g := (fun i => P.on + UInt32.ofNat i) ∘ fun d => q.got + d)]
  · congr 1
    apply List.filter_congr
    intro d hd
    have hd := List.mem_range.1 hd
    show (S.kept (S.top + 1 + UInt32.ofNat d)).isSome = q.kept (q.got + d)
    have ht : S.top + 1 + UInt32.ofNat d = P.on + UInt32.ofNat (q.got + d) := by rw [(h.op (.inr hs)).2, UInt32.ofNat_add]; grind
    rw [ht, h.look _ (by omega)]
    cases hc : q.kept (q.got + d) with
    | false => rfl
    | true => have := hk _ hc; simp [this]
  · intro d _
    show S.top + 1 + UInt32.ofNat d = P.on + UInt32.ofNat (q.got + d)
    rw [(h.op (.inr hs)).2, UInt32.ofNat_add]; grind
theorem R.sackB (h : R P bs S q om) (hs : q.state = 3) (hg : q.got ≤ 100000) (hk : ∀ i, q.kept i = true → i < om.length) : S.sackB = enc P q.msgs q.sackP := by
  unfold AS.sackB Q.sackP
  show _ = pkt P.ot 6 ++ (be32 (P.on - 1 + UInt32.ofNat q.got) ++ ((q.beyond.take 16).map fun i => P.on + UInt32.ofNat i).flatMap be32)
  rw [(h.op (.inr hs)).1, (h.op (.inr hs)).2, h.beyond hs hg hk, List.map_take, List.append_assoc]
theorem R.mark (h : R P bs S q om) (hb : QB q om.length) (k : Nat) (hk : k < 2147483648) : R P bs (S.mark (P.n + UInt32.ofNat k)) (q.mark k) om := by
  have h1 := hb.win; have h2 := hb.s16; have h3 := hb.ml
  have e0 : P.n + UInt32.ofNat k - S.base = UInt32.ofNat k - UInt32.ofNat q.acked := by rw [h.base]; grind
  have ed := u_diff k q.acked (by omega) (by omega)
  have e1 : P.n + UInt32.ofNat k - S.base < UInt32.ofNat S.sent ↔ q.acked ≤ k ∧ k < q.acked + q.sent := by
    rw [e0, UInt32.lt_iff_toNat_lt, ed, h.sent, u_nat (by omega)]
    split <;> omega
  unfold AS.mark Q.mark
  by_cases hc : q.acked ≤ k ∧ k < q.acked + q.sent
  · rw [if_pos (e1.2 hc), if_pos hc]
    have e2 : (P.n + UInt32.ofNat k - S.base).toNat = k - q.acked := by rw [e0, ed, if_pos hc.1]
    rw [e2]
    refine { h with queue := ?_, come := ?_ }
    · show (S.queue.modify (k - q.acked) fun x => (x.1, true)).map (·.1) = _
      rw [← h.queue]
      apply List.ext_getElem?
      intro j
      rw [List.getElem?_map, List.getElem?_modify, List.getElem?_map]
      split <;> cases S.queue[j]? <;> rfl
    · intro i hi
      have hi2 : i < S.queue.length := by rw [h.len]; exact hi
      show comeAt (S.queue.modify (k - q.acked) fun x => (x.1, true)) i = (decide (q.acked + i = k) || q.come (q.acked + i))
      rw [← h.come i hi]
      unfold comeAt
      rw [List.getElem?_modify, List.getElem?_eq_getElem hi2]
      by_cases hj : k - q.acked = i
      · have : q.acked + i = k := by omega
        simp [hj, this]
      · have : ¬ q.acked + i = k := by omega
        simp [hj, this]
  · rw [if_neg (fun x => hc (e1.1 x)), if_neg hc]; exact h
theorem R.marks (l : List Nat) : ∀ {S : PS} {q : Q}, R P bs S q om → QB q om.length → (∀ k ∈ l, k < 2147483648) → R P bs ((l.map fun i => P.n + UInt32.ofNat i).foldl AS.mark S) (l.foldl Q.mark q) om := by
  induction l with
  | nil => intro S q h _ _; exact h
  | cons k l ih => intro S q h hb hk; exact ih (h.mark hb k (hk k List.mem_cons_self)) (hb.mark k) fun j hj => hk j (List.mem_cons_of_mem _ hj)
theorem R.left (h : R P bs S q om) (hb : QB q om.length) (c : Nat) (hc : c < 2147483648) : S.left (P.n - 1 + UInt32.ofNat c) = q.left c ∧ (q.left c = true → (P.n - 1 + UInt32.ofNat c - S.base + 1).toNat = c - q.acked) := by
  have h1 := hb.win; have h2 := hb.s16; have h3 := hb.ml
  have e0 : P.n - 1 + UInt32.ofNat c - S.base + 1 = UInt32.ofNat c - UInt32.ofNat q.acked := by rw [h.base]; grind
  have ed := u_diff c q.acked (by omega) (by omega)
  refine ⟨?_, fun hl => ?_⟩
  · unfold AS.left Q.left
    rw [e0]
    apply decide_eq_decide.2
    rw [UInt32.le_iff_toNat_le, UInt32.le_iff_toNat_le, ed, h.sent, u_nat (by omega), show (1 : UInt32).toNat = 1 from rfl]
    split <;> omega
  · have hl : q.acked < c ∧ c ≤ q.acked + q.sent := of_decide_eq_true hl
    rw [e0, ed, if_pos (by omega)]
theorem R.drop1 (h : R P bs S q om) (hb : QB q om.length) (c : Nat) (hc : c < 2147483648) : R P bs (S.drop1 (P.n - 1 + UInt32.ofNat c)) (q.drop1 c) om := by
  obtain ⟨e1, e2⟩ := h.left hb c hc
  have h1 := hb.win
  unfold AS.drop1 Q.drop1
  rw [e1]
  cases hl : q.left c with
  | false => exact h
  | true =>
    have hl2 : q.acked < c ∧ c ≤ q.acked + q.sent := of_decide_eq_true hl
    rw [if_pos rfl, if_pos rfl]
    have e3 := e2 hl
    have e4 : P.n - 1 + UInt32.ofNat c - S.base + 1 = UInt32.ofNat (c - q.acked) := by rw [← e3, UInt32.ofNat_toNat]
    refine { h with base := ?_, queue := ?_, come := ?_, sent := ?_ }
    · show S.base + (P.n - 1 + UInt32.ofNat c - S.base + 1) = P.n + UInt32.ofNat c
      grind
    · show (S.queue.drop (P.n - 1 + UInt32.ofNat c - S.base + 1).toNat).map (·.1) = q.msgs.drop c
      rw [e3, List.map_drop, h.queue, List.drop_drop, show q.acked + (c - q.acked) = c by omega]
    · intro i hi
      have hi : i < q.msgs.length - c := hi
      show comeAt (S.queue.drop (P.n - 1 + UInt32.ofNat c - S.base + 1).toNat) i = q.come (c + i)
      rw [e3]
      have := h.come (c - q.acked + i) (by show _ < q.msgs.length - q.acked; omega)
      rw [show q.acked + (c - q.acked + i) = c + i by omega] at this
      rw [← this]
      unfold comeAt
      rw [List.getElem?_drop]
    · show S.sent - (P.n - 1 + UInt32.ofNat c - S.base + 1).toNat = q.sent - (c - q.acked)
      rw [e3, h.sent]
theorem R.ack1 (h : R P bs S q om) (hb : QB q om.length) (c : Nat) (hc : c < 2147483648) (l : List Nat) (hl : ∀ k ∈ l, k < 2147483648) : R P bs (S.ack1 (P.n - 1 + UInt32.ofNat c) (l.map fun i => P.n + UInt32.ofNat i)) (q.ack1 c l) om := by
  have e1 := (h.left hb c hc).1
  have h2 := R.marks l (h.drop1 hb c hc) (hb.drop1 c) hl
  unfold AS.ack1 Q.ack1
  rw [e1]
  cases hx : q.left c with
  | false => exact h2
  | true =>
    rw [if_pos rfl, if_pos rfl]
    exact { h2.starts with tset := by show decide _ = decide _; rw [h2.sent] }
theorem R.win (h : R P bs S q om) : S.win = q.win := by
  unfold AS.win Q.win; rw [h.len, h.sent]
theorem R.more (h : R P bs S q om) : R P bs S.more q.more om := by
  have hm : R P bs { S with sent := max S.sent (min S.queue.length 16) } { q with sent := max q.sent (min q.len 16) } om := { h with sent := by show max S.sent (min S.queue.length 16) = _; rw [h.len, h.sent] }
  unfold AS.more Q.more
  by_cases hc : q.win ≠ [] ∧ q.tset = false
  · rw [if_pos (by rw [h.win, h.tset]; exact hc), if_pos hc]; exact hm.starts
  · rw [if_neg (by rw [h.win, h.tset]; exact hc), if_neg hc]; exact hm
theorem R.dataAt (h : R P bs S q om) (hs : q.state = 3) (i : Nat) : S.dataAt i = enc P q.msgs (.data (q.acked + i)) := by
  have e : (S.queue[i]?.map (·.1)) = q.msgs[q.acked + i]? := by rw [← List.getElem?_map, h.queue, List.getElem?_drop]
  unfold AS.dataAt
  rw [e, (h.op (.inr hs)).1, h.base, u_add, ← List.getD_eq_getElem?_getD]
  simp only [enc, dataB, List.append_assoc]
theorem R.moreOut (h : R P bs S q om) (hs : q.state = 3) : S.moreOut = q.moreOut.map (enc P q.msgs) := by
  unfold AS.moreOut Q.moreOut
  rw [h.win, List.map_map]
  exact List.map_congr_left fun i _ => h.dataAt hs i
theorem R.again (h : R P bs S q om) (hb : QB q om.length) (hs : q.state = 3) : S.againOut S.sent = q.again.map (enc P q.msgs) := by
  unfold AS.againOut Q.again
  rw [h.sent, List.map_map]
  have e : ((List.range q.sent).filter fun i => !comeAt S.queue i) = (List.range q.sent).filter fun i => !q.come (q.acked + i) := by
    apply List.filter_congr
    intro i hi
    have hi := List.mem_range.1 hi
    rw [h.come i (by have := hb.win; show i < q.msgs.length - q.acked; omega)]
  rw [e]
  exact List.map_congr_left fun i _ => h.dataAt hs i
end
/-! ### a packet that is handed in -/
def kdOf : Pk → UInt32
  | .init => 1
  | .iack => 2
  | .echo => 3
  | .cack => 4
  | .data _ => 5
  | .sack _ _ => 6
structure SPok (P : SP) : Prop where
  t : P.t ≠ 0
  ot : P.ot ≠ 0
  cl : P.ck.length = 36
theorem SPok.flip {P : SP} (h : SPok P) : SPok P.flip := ⟨h.ot, h.t, h.cl⟩
theorem flat4_len (l : List UInt32) : (l.flatMap be32).length = 4 * l.length := by
  induction l with
  | nil => rfl
  | cons x l ih => rw [List.flatMap_cons, List.length_append, ih]; show 4 + _ = _; rw [List.length_cons]; omega
theorem enc_formed {P : SP} (hP : SPok P) {om : List PM} (hom : ∀ m ∈ om, m.2.2.length ≤ 1024) {ol : Nat} (p : Pk) (hp : PkOk om.length ol p) : Formed (enc P om p) (kdOf p) := by
  have d : ∀ kd : UInt32, kd ≠ 1 → decide (P.ot = 0) = decide (kd = 1) := fun kd h => by rw [decide_eq_false hP.ot, decide_eq_false h]
  cases p with
  | init => exact formed_pkt (k := 1) rfl (by decide) (by decide) (by decide) rfl (by decide)
  | iack => exact formed_pkt (k := 2) rfl (by decide) (by decide) (by decide) (by rw [List.length_append, List.length_append, hP.cl]; rfl) (d 2 (by decide))
  | echo => exact formed_pkt (k := 3) rfl (by decide) (by decide) (by decide) (by rw [hP.cl]; rfl) (d 3 (by decide))
  | cack => exact formed_pkt (k := 4) rfl (by decide) (by decide) (by decide) rfl (d 4 (by decide))
  | data i =>
    have hp : i < om.length := hp
    have hm := hom (om.getD i pdef) (by rw [List.getD_eq_getElem?_getD, List.getElem?_eq_getElem hp]; exact List.getElem_mem hp)
    refine formed_pkt (k := 5) rfl (by decide) (show shr32 (shl32 (UInt8.toUInt32 5) 24) 24 = 5 by decide) (show UInt32.toUInt8 5 = 5 by decide) ?_ (d 5 (by decide))
    generalize om.getD i pdef = m at hm ⊢
    simp only [List.length_append, wr.be32_len, wr.be16_len, fitsB]
    simp
    omega
  | sack c l =>
    have hp : c ≤ ol ∧ l.length ≤ 16 ∧ ∀ i ∈ l, i < ol := hp
    refine formed_pkt (k := 6) rfl (by decide) (show shr32 (shl32 (UInt8.toUInt32 6) 24) 24 = 6 by decide) (show UInt32.toUInt8 6 = 6 by decide) ?_ (d 6 (by decide))
    simp only [List.length_append, wr.be32_len, flat4_len, List.length_map, fitsB]
    simp
    omega
theorem at8 (t : UInt32) (k : UInt8) (x : UInt32) (r : List UInt8) : n32 (pkt t k ++ (be32 x ++ r)) 8 = x := n32_at (pkt t k) r x 8 rfl
theorem at12 (t : UInt32) (k : UInt8) (x y : UInt32) (r : List UInt8) : n32 (pkt t k ++ (be32 x ++ (be32 y ++ r))) 12 = y := by
  rw [← List.append_assoc]; exact n32_at (pkt t k ++ be32 x) r y 12 rfl
section
variable {P : SP} {bs : Bool} {S : PS} {q : Q} {om : List PM}
theorem take_none (l : List PM) (n : Nat) : ([] : List PM) = l.take (n - n) := by rw [Nat.sub_self, List.take_zero]
def HandR (P : SP) (bs : Bool) (q : Q) (om : List PM) (p : Pk) (r : PS × List (List UInt8) × List PM × Nat) : Prop :=
  R P bs r.1 (q.hand p).1 om ∧ r.2.1 = (q.hand p).2.map (enc P q.msgs) ∧ r.2.2.1 = (om.drop q.got).take ((q.hand p).1.got - q.got)
theorem R.hInit (h : R P bs S q om) (hP : SPok P) (hbs : bs = true) : HandR P bs q om .init (S.handle2 (enc P.flip om .init) 1) := by
  have n8 : n32 (enc P.flip om .init) 8 = P.ot := at8 _ _ _ _
  have n12 : n32 (enc P.flip om .init) 12 = P.on := at12 _ _ _ _ _
  have hz : n32 (enc P.flip om .init) 8 ≠ 0 := by rw [n8]; exact hP.ot
  by_cases hs : q.state = 0 ∨ q.state = 3
  · rw [handle2_1y hz (by rw [h.state]; exact hs), n8, n12]
    refine ⟨h, ?_, take_none _ _⟩
    simp only [Q.hand]
    rw [if_pos hs]
    show [S.initAckB P.ot P.on] = [enc P q.msgs .iack]
    unfold AS.initAckB
    rw [h.tag, h.first, h.cook hbs, List.append_assoc, List.append_assoc]; rfl
  · rw [handle2_1n hz (by rw [h.state]; omega) (by rw [h.state]; omega)]
    refine ⟨h, ?_, take_none _ _⟩
    simp only [Q.hand]
    rw [if_neg hs]; rfl
theorem R.hIack (h : R P bs S q om) (hb : QB q om.length) (hP : SPok P) : HandR P bs q om .iack (S.handle2 (enc P.flip om .iack) 2) := by
  have n8 : n32 (enc P.flip om .iack) 8 = P.ot := at8 _ _ _ _
  have n12 : n32 (enc P.flip om .iack) 12 = P.on := at12 _ _ _ _ _
  have d16 : (enc P.flip om .iack).drop 16 = P.ck := rfl
  have ht : n32 (enc P.flip om .iack) 0 = S.tag := (pkt_tag _ _ _).trans h.tag.symm
  rw [handle2_2 (by rw [n8]; exact hP.ot) ht, n8, n12, d16]
  unfold HandR
  simp only [Q.hand]
  by_cases hs : q.state = 1
  · rw [if_neg (by rw [h.state]; omega), if_pos hs]
    have hi := hb.idle (by omega)
    refine ⟨?_, rfl, take_none _ _⟩
    have h2 : R P bs { S with known := true, other := P.ot, top := P.on - 1, state := 2, shake := echoB P.ot P.ck } { q with state := 2 } om :=
      { h with state := rfl, op := fun _ => ⟨rfl, by show P.on - 1 = P.on - 1 + UInt32.ofNat q.got; rw [hi.1]; have : UInt32.ofNat 0 = 0 := rfl; grind⟩, shake1 := fun hx => absurd (show (2 : Nat) = 1 from hx) (by decide), shake2 := fun _ => rfl }
    exact h2.starts
  · rw [if_pos (by rw [h.state]; exact hs), if_neg hs]
    exact ⟨h, rfl, take_none _ _⟩
theorem R.hEcho (h : R P bs S q om) (hb : QB q om.length) (hbs : bs = true) : HandR P bs q om .echo (S.handle2 (enc P.flip om .echo) 3) := by
  have hc := h.cook hbs
  have e2 : P.ck = be32 P.ot ++ (be32 P.on ++ (be32 S.tag ++ be32 S.first ++ sha.mac S.secret (ckB S P.ot P.on))) := by
    rw [← hc]; unfold cookieB ckB; simp only [List.append_assoc]
  have ee : enc P.flip om .echo = pkt P.t 3 ++ P.ck := rfl
  have n8 : n32 (enc P.flip om .echo) 8 = P.ot := by rw [ee, e2]; exact at8 _ _ _ _
  have n12 : n32 (enc P.flip om .echo) 12 = P.on := by rw [ee, e2]; exact at12 _ _ _ _ _
  have d8 : (enc P.flip om .echo).drop 8 = P.ck := rfl
  have ht : n32 (enc P.flip om .echo) 0 = S.tag := (pkt_tag _ _ _).trans h.tag.symm
  rw [handle2_3 ht, n8, n12, d8, if_neg (fun hx => hx hc.symm)]
  unfold HandR
  simp only [Q.hand]
  by_cases hs : q.state = 0
  · rw [if_pos (h.state.trans hs), if_pos hs]
    have hi := hb.idle (by omega)
    refine ⟨?_, ?_, take_none _ _⟩
    · exact { h with state := rfl, op := fun _ => ⟨rfl, by show P.on - 1 = P.on - 1 + UInt32.ofNat q.got; rw [hi.1]; have : UInt32.ofNat 0 = 0 := rfl; grind⟩, shake1 := fun hx => absurd (show (3 : Nat) = 1 from hx) (by decide), shake2 := fun hx => absurd (show (3 : Nat) = 2 from hx) (by decide) }
    · show [pkt P.ot 4] = [pkt P.ot 4 ++ []]; rw [List.append_nil]
  · rw [if_neg (by rw [h.state]; exact hs), if_neg hs]
    by_cases h3 : q.state = 3
    · have ho := (h.op (.inr h3)).1
      rw [if_neg (by rw [h.state, ho]; rintro (hx | hx); exact hx h3; exact hx rfl), if_pos h3, ho]
      refine ⟨h, ?_, take_none _ _⟩
      show [pkt P.ot 4] = [pkt P.ot 4 ++ []]; rw [List.append_nil]
    · rw [if_pos (.inl (by rw [h.state]; exact h3)), if_neg h3]
      exact ⟨h, rfl, take_none _ _⟩
theorem R.hCack (h : R P bs S q om) : HandR P bs q om .cack (S.handle2 (enc P.flip om .cack) 4) := by
  have ht : n32 (enc P.flip om .cack) 0 = S.tag := (pkt_tag _ _ _).trans h.tag.symm
  rw [handle2_4 ht]
  unfold HandR
  simp only [Q.hand]
  by_cases hs : q.state = 2
  · rw [if_pos (h.state.trans hs), if_pos hs]
    refine ⟨?_, rfl, take_none _ _⟩
    exact { h with state := rfl, tset := rfl, op := fun _ => h.op (.inl hs), shake1 := fun hx => absurd (show (3 : Nat) = 1 from hx) (by decide), shake2 := fun hx => absurd (show (3 : Nat) = 2 from hx) (by decide) }
  · rw [if_neg (by rw [h.state]; exact hs), if_neg hs]
    by_cases h3 : S.state = 3
    · rw [if_pos h3]; exact ⟨h, rfl, take_none _ _⟩
    · rw [if_neg h3]; exact ⟨h, rfl, take_none _ _⟩
theorem R.hData (h : R P bs S q om) (hb : QB q om.length) (i : Nat) (hi : i < om.length) : HandR P bs q om (.data i) (S.handle2 (enc P.flip om (.data i)) 5) := by
  have ht : n32 (enc P.flip om (.data i)) 0 = S.tag := (pkt_tag _ _ _).trans h.tag.symm
  unfold HandR
  simp only [Q.hand]
  by_cases hs : q.state = 3
  · have n8 : n32 (enc P.flip om (.data i)) 8 = P.on + UInt32.ofNat i := at8 _ _ _ _
    have n14 : n32 (enc P.flip om (.data i)) 14 = (om.getD i pdef).2.1 := by
      show n32 (pkt P.t 5 ++ (be32 (P.on + UInt32.ofNat i) ++ (be16 (om.getD i pdef).1 ++ (be32 (om.getD i pdef).2.1 ++ (om.getD i pdef).2.2)))) 14 = _
      rw [← List.append_assoc, ← List.append_assoc]
      exact n32_at (pkt P.t 5 ++ be32 (P.on + UInt32.ofNat i) ++ be16 (om.getD i pdef).1) _ _ 14 rfl
    have d12 : (num (((enc P.flip om (.data i)).drop 12).take 2)).toUInt16 = (om.getD i pdef).1 := num_be16 _
    have d18 : (enc P.flip om (.data i)).drop 18 = (om.getD i pdef).2.2 := rfl
    rw [handle2_5 ht (h.state.trans hs), n8, n14, d12, d18, if_pos hs]
    obtain ⟨g1, g2⟩ := h.recv hb hs i hi
    have g3 := hb.recv hs i hi
    have e := Q.recv_same q i
    refine ⟨g1, ?_, g2⟩
    show [AS.sackB _] = [enc P q.msgs (q.recv i).sackP]
    rw [← e.2.1]
    exact congrArg (fun x => [x]) (g1.sackB (e.1.trans hs) (Nat.le_trans g3.got g3.olm) fun j hj => (g3.kept j hj).2.2)
  · rw [handle2_n (.inl rfl) ht (by rw [h.state]; exact hs), if_neg hs]
    exact ⟨h, rfl, take_none _ _⟩
theorem R.hSack (h : R P bs S q om) (hb : QB q om.length) (c : Nat) (l : List Nat) (hp : PkOk om.length q.msgs.length (.sack c l)) : HandR P bs q om (.sack c l) (S.handle2 (enc P.flip om (.sack c l)) 6) := by
  have hp : c ≤ q.msgs.length ∧ l.length ≤ 16 ∧ ∀ i ∈ l, i < q.msgs.length := hp
  have hm := hb.ml
  have ht : n32 (enc P.flip om (.sack c l)) 0 = S.tag := (pkt_tag _ _ _).trans h.tag.symm
  unfold HandR
  simp only [Q.hand]
  by_cases hs : q.state = 3
  · have n8 : n32 (enc P.flip om (.sack c l)) 8 = P.n - 1 + UInt32.ofNat c := at8 _ _ _ _
    have d12 : words ((enc P.flip om (.sack c l)).drop 12) = l.map fun i => P.n + UInt32.ofNat i := words_flat _
    rw [handle2_6 ht (h.state.trans hs), n8, d12, if_pos hs]
    have g1 := h.ack1 hb c (by omega) l fun k hk => by have := hp.2.2 k hk; omega
    have e := Q.ack1_same q c l
    refine ⟨g1.more, ?_, ?_⟩
    · show AS.moreOut _ = (q.ack1 c l).moreOut.map (enc P q.msgs)
      rw [g1.moreOut (e.1.trans hs), e.2.1]
    · show [] = _
      rw [(Q.more_same (q.ack1 c l)).2.2.1, e.2.2.1]; exact take_none _ _
  · rw [handle2_n (.inr rfl) ht (by rw [h.state]; exact hs), if_neg hs]
    exact ⟨h, rfl, take_none _ _⟩
theorem R.handle (h : R P bs S q om) (hb : QB q om.length) (hP : SPok P) (hom : ∀ m ∈ om, m.2.2.length ≤ 1024) (now : Int) (p : Pk) (hp : PkOk om.length q.msgs.length p) (hbs : p = .init ∨ p = .echo → bs = true) :
    HandR P bs (q.clocked now) om p (S.handle now (enc P.flip om p)) := by
  rw [handle_ok (enc_formed hP.flip hom p hp)]
  have h1 := h.clocked now
  have hb1 := hb.clocked now
  cases p with
  | init => exact h1.hInit hP (hbs (.inl rfl))
  | iack => exact h1.hIack hb1 hP
  | echo => exact h1.hEcho hb1 (hbs (.inr rfl))
  | cack => exact h1.hCack
  | data i => exact h1.hData hb1 i hp
  | sack c l => exact h1.hSack hb1 c l hp
/-! ### a message that is sent; the timer -/
theorem R.taken (h : R P bs S q om) (hb : QB q om.length) (m : PM) (now : Int) : R P bs (S.taken m now) (q.taken m now) om := by
  have h1 := hb.win
  have hl : q.len = q.msgs.length - q.acked := rfl
  refine { h with queue := ?_, come := ?_, clock := by show max S.clock now = max q.clock now; rw [h.clock] }
  · show (S.queue ++ [(m, false)]).map (·.1) = (q.msgs ++ [m]).drop q.acked
    rw [List.map_append, h.queue, List.drop_append_of_le_length (by omega)]; rfl
  · intro i hi
    have hi : i < (q.msgs ++ [m]).length - q.acked := hi
    rw [List.length_append] at hi
    have hi : i < q.msgs.length + 1 - q.acked := hi
    show comeAt (S.queue ++ [(m, false)]) i = q.come (q.acked + i)
    by_cases hlt : i < q.len
    · rw [← h.come i hlt]
      unfold comeAt
      rw [List.getElem?_append_left (by rw [h.len]; exact hlt)]
    · obtain rfl : i = q.len := by omega
      have hq : q.come (q.acked + q.len) = false := by
        cases hc : q.come (q.acked + q.len) with
        | false => rfl
        | true => have := hb.come _ hc; omega
      rw [hq]
      unfold comeAt
      rw [← h.len, List.getElem?_append_right (Nat.le_refl _), Nat.sub_self]; rfl
theorem R.send (h : R P bs S q om) (hb : QB q om.length) (m : PM) (now : Int) :
    R P bs (S.sendP m now).1 (q.send m now).1 om ∧ (S.sendP m now).2.1 = (q.send m now).2.map (enc P (q.send m now).1.msgs) ∧ ((S.sendP m now).2.2 = 0 ↔ q.can m) ∧ (q.send m now).1.msgs = q.msgs ++ (if (S.sendP m now).2.2 = 0 then [m] else []) := by
  have hl := h.len
  unfold AS.sendP Q.send
  by_cases hc : q.can m
  · obtain ⟨c1, c2, c3⟩ := hc
    have ht := h.taken hb m now
    have em := Q.more_same (q.taken m now)
    rw [if_neg (by rw [h.state]; exact fun x => x c1), if_neg (by omega), if_neg (by rw [hl]; exact c3), if_pos ⟨c1, c2, c3⟩]
    refine ⟨ht.more, ?_, ⟨fun _ => ⟨c1, c2, c3⟩, fun _ => rfl⟩, ?_⟩
    · show (S.taken m now).moreOut = (q.taken m now).moreOut.map (enc P (q.taken m now).more.msgs)
      rw [em.2.1]; exact ht.moreOut c1
    · show (q.taken m now).more.msgs = _
      rw [em.2.1, if_pos rfl]; rfl
  · rw [if_neg hc]
    have hn : ∀ (e : Nat), e ≠ 0 → (R P bs (S, ([] : List (List UInt8)), e).1 (q, ([] : List Pk)).1 om ∧ (S, ([] : List (List UInt8)), e).2.1 = (q, ([] : List Pk)).2.map (enc P (q, ([] : List Pk)).1.msgs) ∧ ((S, ([] : List (List UInt8)), e).2.2 = 0 ↔ q.can m) ∧ (q, ([] : List Pk)).1.msgs = q.msgs ++ (if (S, ([] : List (List UInt8)), e).2.2 = 0 then [m] else [])) :=
      fun e he => ⟨h, rfl, ⟨fun hx => absurd hx he, fun hx => absurd hx hc⟩, by rw [if_neg he]; exact (List.append_nil _).symm⟩
    split
    · exact hn 9 (by decide)
    split
    · exact hn 3 (by decide)
    split
    · exact hn 6 (by decide)
    · rename_i g1 g2 g3
      exact absurd ⟨h.state.symm.trans (Classical.not_not.1 g1), by omega, by rw [← hl]; exact g3⟩ hc
theorem R.due (h : R P bs S q om) : S.due ↔ q.due := by
  unfold AS.due Q.due; rw [h.tset, h.clock, h.moment, h.delay]
theorem R.tick (h : R P bs S q om) (hb : QB q om.length) (now : Int) : R P bs (S.tickP now).1 (q.tick now).1 om ∧ (S.tickP now).2 = (q.tick now).2.map (enc P q.msgs) ∧ (q.tick now).1.msgs = q.msgs ∧ (q.tick now).1.got = q.got := by
  have h1 := h.clocked now
  unfold AS.tickP Q.tick
  by_cases hd : (q.clocked now).due
  · have hd2 := h1.due.2 hd
    rw [if_neg (show ¬ ¬ (S.clocked now).due from fun x => x hd2), if_neg (show ¬ ¬ (q.clocked now).due from fun x => x hd), h.fires, h.state]
    have hf : R P bs (S.clocked now).fired (q.clocked now).fired om :=
      { h1 with tset := rfl, moment := h1.clock, delay := by show min (2 * S.delay) 8000 = min (2 * q.delay) 8000; rw [h.delay], fires := by show S.fires + 1 = q.fires + 1; rw [h.fires] }
    split
    · exact ⟨{ h1 with state := rfl, tset := rfl, op := fun hx => absurd (show (4 : Nat) = 2 ∨ (4 : Nat) = 3 from hx) (by decide), shake1 := fun hx => absurd (show (4 : Nat) = 1 from hx) (by decide), shake2 := fun hx => absurd (show (4 : Nat) = 2 from hx) (by decide) }, rfl, rfl, rfl⟩
    split
    · rename_i hs
      refine ⟨hf, ?_, rfl, rfl⟩
      show [S.shake] = [enc P q.msgs q.shake]
      have ht := hb.tset hd.1
      unfold Q.shake
      by_cases h1 : q.state = 1
      · rw [if_pos h1, h.shake1 h1]; rfl
      · rw [if_neg h1, h.shake2 (by omega)]; rfl
    · rename_i hs
      exact ⟨hf, h.again hb (Classical.not_not.1 hs), rfl, rfl⟩
  · rw [if_pos (show ¬ (S.clocked now).due from fun x => hd (h1.due.1 x)), if_pos (show ¬ (q.clocked now).due from hd)]
    exact ⟨h1, rfl, rfl, rfl⟩
theorem R.grow (h : R P bs S q om) (hb : QB q om.length) (l : List PM) : R P bs S q (om ++ l) := by
  refine { h with kept := ?_ }
  rw [h.kept]
  funext t
  cases hk : q.kept (t - P.on).toNat with
  | false => rfl
  | true =>
    rw [if_pos rfl, if_pos rfl, List.getElem?_append_left (hb.kept _ hk).2.2]
theorem enc_grow {ol : Nat} {ms : List PM} (l : List PM) (p : Pk) (hp : PkOk ms.length ol p) : enc P (ms ++ l) p = enc P ms p := by
  cases p with
  | data i =>
    have hp : i < ms.length := hp
    have e : (ms ++ l).getD i pdef = ms.getD i pdef := by
      rw [List.getD_eq_getElem?_getD, List.getD_eq_getElem?_getD, List.getElem?_append_left hp]
    simp only [enc, e]
  | _ => rfl
end
end ac
end Go.Proofs.Ytomplpdeeomehaa


/- assoc: the net as one atom; its steps, plain; theirs, walked. -/
namespace Go.Proofs.Ytomplpdeeomehaa
set_option linter.unusedVariables false
set_option linter.unusedSimpArgs false
open Go.RowKit
namespace ac
open wr (be16 be32)
open rd (num)
namespace FxAsNd
set_option maxRecDepth 100000
theorem fo77_0 : Program.fieldOff Try.prog 77 0 = some 0 := by kernel_rfl
theorem fo77_1 : Program.fieldOff Try.prog 77 1 = some 1 := by kernel_rfl
theorem fo77_2 : Program.fieldOff Try.prog 77 2 = some 2 := by kernel_rfl
end FxAsNd
open Go.Proofs.Ytomplpdeeomehaa.ac.FxAsC Go.Proofs.Ytomplpdeeomehaa.rd.FxWireR Go.Proofs.Ytomplpdeeomehaa.ac.FxAsV Go.Proofs.Ytomplpdeeomehaa.sha.FxShaBlock FxAsNd
def outs (s : Sl Bs) : List (List UInt8) := s.l.map (·.l)
structure PN where
  A : PS
  B : PS
  ab : List (List UInt8)
  ba : List (List UInt8)
  sent : List PM
  back : List PM
  gB : List PM
  gA : List PM
  now : Int
section
variable (X : PN)
def PN.clip : PN := { X with ab := X.ab.take 200, ba := X.ba.take 200 }
def PN.send1 (m : PM) : PN := { X with A := (X.A.sendP m X.now).1, ab := X.ab ++ (X.A.sendP m X.now).2.1, sent := X.sent ++ if (X.A.sendP m X.now).2.2 = 0 then [m] else [] }
def PN.send2 (m : PM) : PN := { X with B := (X.B.sendP m X.now).1, ba := X.ba ++ (X.B.sendP m X.now).2.1, back := X.back ++ if (X.B.sendP m X.now).2.2 = 0 then [m] else [] }
def PN.pop3 (k : Nat) : PN := { X with ab := X.ab.eraseIdx k }
def PN.pop4 (k : Nat) : PN := { X with ba := X.ba.eraseIdx k }
def PN.hand3 (p : List UInt8) : PN := { X with B := (X.B.handle X.now p).1, ba := X.ba ++ (X.B.handle X.now p).2.1, gB := X.gB ++ (X.B.handle X.now p).2.2.1 }
def PN.hand4 (p : List UInt8) : PN := { X with A := (X.A.handle X.now p).1, ab := X.ab ++ (X.A.handle X.now p).2.1, gA := X.gA ++ (X.A.handle X.now p).2.2.1 }
noncomputable def PN.tick (d : Nat) : PN := { X with now := X.now + (d : Int), A := (X.A.tickP (X.now + (d : Int))).1, ab := X.ab ++ (X.A.tickP (X.now + (d : Int))).2, B := (X.B.tickP (X.now + (d : Int))).1, ba := X.ba ++ (X.B.tickP (X.now + (d : Int))).2 }
end
def strm (N : Int) : UInt16 := UInt16.ofNat (N.tmod 3 % 65536).toNat
theorem strm_v (N : Int) : IntKind.u16.wrap (N.tmod 3) = ((strm N).toNat : Int) := by
  rw [wrap_u16, strm, UInt16.toNat_ofNat_of_lt' (by show _ < 65536; omega)]; omega
def mkM (N : Int) (d : List UInt8) : PM := (strm N, 51, d.take 200)
noncomputable def PN.step (X : PN) (kind N : Int) (keep : Bool) (d : List UInt8) (nw : UInt16) : PN :=
  if kind = 1 then (X.send1 (mkM N d)).clip
  else if kind = 2 then (X.send2 (mkM N d)).clip
  else if kind = 3 ∨ kind = 5 then
    (if X.ab = [] then X else
      let p := X.ab.getD (idxN N X.ab.length) []
      let X1 := if keep = false ∨ kind = 5 then X.pop3 (idxN N X.ab.length) else X
      (if kind = 3 then X1.hand3 p else X1).clip)
  else if kind = 4 ∨ kind = 6 then
    (if X.ba = [] then X else
      let p := X.ba.getD (idxN N X.ba.length) []
      let X1 := if keep = false ∨ kind = 6 then X.pop4 (idxN N X.ba.length) else X
      (if kind = 4 then X1.hand4 p else X1).clip)
  else if kind = 7 then (X.tick (nw % 4000).toNat).clip
  else X.clip
structure Fits (X : PN) : Prop where
  a : InvA X.A
  b : InvA X.B
  ab : ∀ p ∈ X.ab, p.length ≤ 2000
  ba : ∀ p ∈ X.ba, p.length ≤ 2000
  nab : X.ab.length ≤ 200
  nba : X.ba.length ≤ 200
  sent : X.sent.length ≤ 1000000
  back : X.back.length ≤ 1000000
  gB : X.gB.length ≤ 1000000
  gA : X.gA.length ≤ 1000000
  now : 0 ≤ X.now ∧ X.now ≤ 1000000000000
def absN (n : NP) (A B : PS) : PN := ⟨A, B, outs n.ab, outs n.ba, n.sent.l.map pm, n.back.l.map pm, n.gB.l.map pm, n.gA.l.map pm, n.now⟩
abbrev NAt (nb : Nat) (n : NP) (A B : PS) : List SA := [nB nb n, SD n.a A, SD n.b B, oP n.ab, rP n.ab, oP n.ba, rP n.ba, oM n.sent, rMs n.sent, oM n.back, rMs n.back, oM n.gB, rMs n.gB, oM n.gA, rMs n.gA]
def ND (nb : Nat) (X : PN) : SA := SA.ex fun x : NP × PS × PS => SA.star (SA.pure (absN x.1 x.2.1 x.2.2 = X)) (SA.all (NAt nb x.1 x.2.1 x.2.2))
theorem Ent.ND {nb : Nat} {n : NP} {A B : PS} {X : PN} {L : List SA} (h : absN n A B = X) : Ent (NAt nb n A B ++ L) (ac.ND nb X :: L) :=
  (Ent.doall (NAt nb n A B)).trans ((Ent.pureE h).trans (Ent.unstarE.trans (Ent.exE (f := fun x : NP × PS × PS => SA.star (SA.pure (absN x.1 x.2.1 x.2.2 = X)) (SA.all (NAt nb x.1 x.2.1 x.2.2))) (n, A, B))))
theorem ND_st {nb : Nat} {X : PN} {L : List SA} {w : World} (h : St (ND nb X :: L) w) : ∃ n A B, absN n A B = X ∧ St (NAt nb n A B ++ L) w := by
  obtain ⟨⟨n, A, B⟩, h1⟩ := St.ex h
  obtain ⟨h2, h3⟩ := St.pure (St.star h1)
  exact ⟨n, A, B, h2, (Ent.unall (NAt nb n A B)).st h3⟩
theorem Fn.ND {P : Program} {f : FuncId} {args : List Value} {R : Value → List SA → Prop} {nb : Nat} {X : PN} {L : List SA} (h : ∀ n A B, absN n A B = X → Fn P f args (NAt nb n A B ++ L) R) : Fn P f args (ac.ND nb X :: L) R := fun Y w hw => by
  obtain ⟨n, A, B, hX, h1⟩ := ND_st (St.up1 hw)
  refine h n A B hX Y w ?_
  exact (show Ent (NAt nb n A B ++ Y :: L) (Y :: (NAt nb n A B ++ L)) by
    generalize ac.SD n.a A = A1
    generalize ac.SD n.b B = A2
    simp only [List.cons_append, List.nil_append]
    exact ett).st h1
def StepR (nb : Nat) (X : PN) (L : List SA) : Value → List SA → Prop := fun _ L' => ∃ n A B, absN n A B = X ∧ L' = NAt nb n A B ++ L
theorem StepR.nd {nb : Nat} {X : PN} {L : List SA} : ∀ v L', StepR nb X L v L' → ∃ L2, Ent L' L2 ∧ L2 = ac.ND nb X :: L := by
  rintro v L' ⟨n, A, B, h, rfl⟩
  exact ⟨_, Ent.ND h, rfl⟩
abbrev clipS (s : Sl Bs) : Sl Bs := ⟨s.a, s.cap, s.l.take 200⟩
theorem clipS_id {s : Sl Bs} (h : s.l.length ≤ 200) : clipS s = s := by
  show (⟨s.a, s.cap, s.l.take 200⟩ : Sl Bs) = s
  rw [List.take_of_length_le h]
theorem outs_clip (s : Sl Bs) : outs (clipS s) = (outs s).take 200 := List.map_take
theorem Ent.clipO {s : Sl Bs} {L L1 L2 : List SA} (hp : Pull (oP s) L L1) (hr : Pull (rP s) L1 L2) (hl : 200 ≤ s.l.length) (hc : s.l.length ≤ s.cap) : Ent L (oP (clipS s) :: rP (clipS s) :: L2) := by
  refine hp.ent.trans ((Ent.under _ (hr.ent.trans ((Ent.rdss_sub (hs := (s.l.take 200).flatMap Dat.g) fun q hq => ?_).trans (Ent.under _ Ent.drop)))).trans ?_)
  · obtain ⟨z, hz, hq⟩ := List.mem_flatMap.1 hq
    exact List.mem_flatMap.2 ⟨z, List.mem_of_mem_take hz, hq⟩
  · have e : oP (clipS s) = SA.owns 23 1 (.slice s.a 200 s.cap) 200 ((Dat.cs s.l).take (200 * 1)) := by
      show SA.owns _ 1 (.slice s.a (s.l.take 200).length s.cap) (s.l.take 200).length (Dat.cs (s.l.take 200)) = _
      rw [Dat.cs_take, List.length_take, Nat.min_eq_left hl]; rfl
    rw [e]
    exact Ent.takeOwn hl (Nat.le_trans hl hc)
theorem outs_len (s : Sl Bs) : (outs s).length = s.l.length := List.length_map _
theorem theirs_fn (st : UInt16) (kd : UInt32) (ma : Option Addr) (mn mc : Nat) (ml : List UInt8) (hn : ml.length = mn) (hl : mn ≤ 140737488351232) (L : List SA) :
    Fn Try.prog 39 [.agg (msC st kd (.slice ma mn mc))] (SA.rds 1 (.slice ma mn mc) mn (ml.map v8) :: L)
      (fun v L' => ∃ a' c', v = .agg (msC st kd (.slice a' mn c')) ∧ L' = SA.rds 1 (.slice a' mn c') mn (ml.map v8) :: SA.rds 1 (.slice ma mn mc) mn (ml.map v8) :: L) := by
  refine Fn.of (N := 12) Try.func39 rfl rfl ?_
  intro Xh
  refine TC.seq (TC.region ?_)
  refine TL.eff rfl rfl rfl (X.box (cs := msC st kd (.slice ma mn mc)) rfl rfl rfl) ?_
  rintro _ _ ⟨b1, rfl, rfl⟩
  refine TL.eff rfl rfl rfl (X.alloc rfl zc51) ?_
  rintro _ _ ⟨b2, rfl, rfl⟩
  refine TL.nil (TQ.next (TC.seq ?_))
  refine TC.draws 9 _ (by kernel_rfl) (by kernel_rfl) (fun _ h => h) ?_
  refine TA.tk 0 rfl rfl (by first | exact Y.fieldAddrJ rfl fo77_0 rfl nqq | exact Y.fieldAddr rfl fo77_0 rfl nqq) ?_
  refine TA.tk 1 rfl rfl (Y.load rfl sc40 rfl cel16) ?_
  refine TA.as (v16 st) (by rfl) ?_
  refine TA.tk 2 rfl rfl (by first | exact Y.fieldAddrJ rfl fo77_1 rfl nqq | exact Y.fieldAddr rfl fo77_1 rfl nqq) ?_
  refine TA.tk 3 rfl rfl (Y.load rfl sc22 rfl cel32) ?_
  refine TA.as (v32 kd) (by rfl) ?_
  refine TA.tk 5 rfl rfl (by first | exact Y.fieldAddrJ rfl fo77_2 rfl nqq | exact Y.fieldAddr rfl fo77_2 rfl nqq) ?_
  refine TA.tk 6 rfl rfl (Y.load rfl sc23 rfl celD) ?_
  refine TA.as (.slice ma mn mc) (by rfl) ?_
  refine TA.one 4 (by kernel_rfl) rfl rfl rfl rfl (X.lit rfl el23 rfl rfl rfl (by decide) rfl) ?_
  rintro _ _ ⟨g7, rfl, rfl⟩
  refine ⟨(Or.inr (fun w h A hA => h A (by with_reducible (first | assumption | (repeat first | exact In.there hA | apply In.there))))), ?_⟩
  refine TA.one 7 (by kernel_rfl) rfl rfl rfl rfl (X.appendS rfl el23 rfl pul rfl (by first | exact Src.owns Try.underlying23 inn | exact Src.rds Try.underlying23 inn | exact Src.reads (by assumption) Try.underlying23 inn) (by simp only [maxLen]; omega) (by omega)) ?_
  rintro _ _ ⟨a10, c10, rfl, rfl⟩
  simp only [List.nil_append, Nat.zero_add]
  refine ⟨(Or.inr (fun w h A hA => h A (by with_reducible (first | assumption | (repeat first | exact In.there hA | apply In.there))))), ?_⟩
  refine TA.tk 8 rfl rfl (Y.buildS (cells := msC st kd (.slice a10 mn c10)) rfl rfl pl51 zc51 (by kernel_rfl)) ?_
  refine TA.one0 9 (by kernel_rfl) rfl rfl rfl (by first | exact X.storeAll rfl sz51 (by rfl) rfl rfl (allOne (by rfl)) pul (by rfl) | exact X.storeAll rfl sz51 szz rfl rfl (by simp [Value.oneCell']) pul szz | exact X.storeAgg rfl sz51 szz rfl rfl (by simp [Value.oneCell']) pul szz (writeM (by ((try simp only [List.length_set, List.length_map, List.length_append, List.length_replicate]); omega)))) ?_
  rintro _ _ rfl
  refine ⟨(Or.inl (by kernel_rfl)), ?_⟩
  refine TA.done (by kernel_rfl) ?_
  refine TQ.to ((Pull.ent (A := SA.owns 5 1 (.slice a10 mn c10) mn (ml.map v8)) pul).trans Ent.freeze) ?_
  refine TQ.next (TC.ret ?_)
  refine TQ.retE (resC rfl ag51 rfl (Cels.all (cs := msC st kd (.slice a10 mn c10)) inn) rfl) (⟨a10, c10, rfl, rfl⟩) ?_
  exact ett
end ac
end Go.Proofs.Ytomplpdeeomehaa


/- assoc: the net's steps of the first two kinds, walked. -/
namespace Go.Proofs.Ytomplpdeeomehaa
set_option linter.unusedVariables false
set_option linter.unusedSimpArgs false
open Go.RowKit
namespace ac
open wr (be16 be32)
open rd (num)
namespace FxAsN1
set_option maxRecDepth 100000
theorem ag77 : Program.aggN Try.prog 77 = some 3 := by kernel_rfl
theorem fo42_3 : Program.fieldOff Try.prog 42 3 = some 3 := by kernel_rfl
theorem fo46_4 : Program.fieldOff Try.prog 46 4 = some 4 := by kernel_rfl
theorem fo46_5 : Program.fieldOff Try.prog 46 5 = some 5 := by kernel_rfl
theorem sz77 : (Try.prog.info? 77).map (·.size) = some 3 := by kernel_rfl
end FxAsN1
open Go.Proofs.Ytomplpdeeomehaa.sha.FxShaMac Go.Proofs.Ytomplpdeeomehaa.ac.FxAsO Go.Proofs.Ytomplpdeeomehaa.ac.FxAsNet Go.Proofs.Ytomplpdeeomehaa.ac.FxAsNet4 Go.Proofs.Ytomplpdeeomehaa.ac.FxAsA Go.Proofs.Ytomplpdeeomehaa.rd.FxWireR Go.Proofs.Ytomplpdeeomehaa.ac.FxAsS FxAsN1
theorem absN_clip (n : NP) (A B : PS) : absN { n with ab := clipS n.ab, ba := clipS n.ba } A B = (absN n A B).clip := by
  show PN.mk _ _ _ _ _ _ _ _ _ = PN.mk _ _ _ _ _ _ _ _ _
  rw [outs_clip, outs_clip]; rfl
theorem Fits.lens {n : NP} {A B : PS} (h : Fits (absN n A B)) : n.ab.l.length ≤ 200 ∧ n.ba.l.length ≤ 200 ∧ n.sent.l.length ≤ 1000000 ∧ n.back.l.length ≤ 1000000 ∧ n.gB.l.length ≤ 1000000 ∧ n.gA.l.length ≤ 1000000 :=
  ⟨by have := h.nab; rwa [show (absN n A B).ab = outs n.ab from rfl, outs_len] at this, by have := h.nba; rwa [show (absN n A B).ba = outs n.ba from rfl, outs_len] at this, by have := h.sent; rwa [show (absN n A B).sent = n.sent.l.map pm from rfl, List.length_map] at this, by have := h.back; rwa [show (absN n A B).back = n.back.l.map pm from rfl, List.length_map] at this, by have := h.gB; rwa [show (absN n A B).gB = n.gB.l.map pm from rfl, List.length_map] at this, by have := h.gA; rwa [show (absN n A B).gA = n.gA.l.map pm from rfl, List.length_map] at this⟩
theorem Ent.headD {d : Bs} {L : List SA} : Ent (SA.dat d :: L) (SA.rds 1 (.slice d.a (d.l.take 200).length d.cap) (d.l.take 200).length ((d.l.take 200).map v8) :: SA.dat d :: L) := by
  refine Ent.bytesOf.trans (Ent.trans (Ent.takeRds (k := (d.l.take 200).length) (by rw [List.length_take]; omega)) ?_)
  rw [show (d.l.map v8).take ((d.l.take 200).length * 1) = (d.l.take 200).map v8 by rw [← List.map_take, List.length_take, Nat.mul_one, ← List.take_take, List.take_length]]
  exact Ent.refl
theorem Ent.addM {ys : List Msg} {st : UInt16} {kd : UInt32} {bs : Bs} {L L1 L2 : List SA} (h1 : Pull (SA.rdss (ys.flatMap Dat.g)) L L1) (h2 : Pull (SA.rds 1 (.slice bs.a bs.l.length bs.cap) bs.l.length (bs.l.map v8)) L1 L2) : Ent L (SA.rdss ((ys ++ [((st, kd, bs) : Msg)]).flatMap Dat.g) :: L2) := by
  rw [List.flatMap_append, List.flatMap_singleton]
  refine h1.ent.trans ((h2.ent.under _).trans ((Ent.under _ (Ent.mkBytes rfl)).trans ?_))
  exact Ent.rdssApp (gs := ys.flatMap Dat.g) (hs := Dat.g ((st, kd, bs) : Msg))
theorem send_len (S : PS) (m : PM) (now : Int) : (S.sendP m now).2.1.length ≤ 16 := by
  unfold AS.sendP
  split
  · exact Nat.zero_le _
  split
  · exact Nat.zero_le _
  split
  · exact Nat.zero_le _
  · show ((S.taken m now).win.map _).length ≤ 16
    rw [List.length_map]; unfold AS.win; rw [List.length_range']; omega
theorem send1_abs (n : NP) (A B : PS) (m : PM) (b : Sl Bs) (s : Sl Msg) (ol : List Bs) (ho : ol.map (·.l) = (A.sendP m n.now).2.1) (hb : b.l = n.ab.l ++ ol) (hs : s.l.map pm = n.sent.l.map pm ++ if (A.sendP m n.now).2.2 = 0 then [m] else []) {m' : PM} (hm : m = m') :
    absN { n with ab := b, sent := s } (A.sendP m n.now).1 B = (absN n A B).send1 m' := by
  subst hm
  have h1 : outs b = outs n.ab ++ (A.sendP m n.now).2.1 := by unfold outs; rw [hb, List.map_append, ho]
  show PN.mk _ _ _ _ _ _ _ _ _ = PN.mk _ _ _ _ _ _ _ _ _
  rw [h1, hs]; rfl
set_option maxHeartbeats 4000000 in
theorem stp1_fn (nb : Nat) (n : NP) (A B : PS) (hF : Fits (absN n A B)) (N : Int) (kp : Bool) (d : Bs) (hd : d.l.length ≤ 140737488351232) (nw : UInt16) (L : List SA) :
    Fn Try.prog 16 [pt nb 0, .agg (netArg 1 N kp d.v nw)] (NAt nb n A B ++ SA.dat d :: L) (StepR nb ((absN n A B).send1 (mkM N d.l)).clip (SA.dat d :: L)) := by
  obtain ⟨hn1, hn2, hn3, hn4, hn5, hn6⟩ := hF.lens
  have hnow : 0 ≤ n.now ∧ n.now ≤ 1000000000000 := hF.now
  simp only [NAt, List.cons_append, List.nil_append]
  refine Fn.of (N := 367) Try.func16 rfl rfl ?_
  intro Xh
  refine TC.seq (TC.region ?_)
  refine TL.eff rfl rfl rfl (X.box (cs := netArg 1 N kp d.v nw) rfl rfl rfl) ?_
  rintro _ _ ⟨b3, rfl, rfl⟩
  refine TL.nil (TQ.next ?_)
  refine TC.cutF (ι := NP × PS × PS) [] (fun i => absN i.1 i.2.1 i.2.2 = (absN n A B).send1 (mkM N d.l)) (fun i => []) (fun i => [nB nb i.1, SD i.1.a i.2.1, SD i.1.b i.2.2, oP i.1.ab, rP i.1.ab, oP i.1.ba, rP i.1.ba, oM i.1.sent, rMs i.1.sent, oM i.1.back, rMs i.1.back, oM i.1.gB, rMs i.1.gB, oM i.1.gA, rMs i.1.gA]) (Ao := [nB nb n, SD n.a A, SD n.b B, oP n.ab, rP n.ab, oP n.ba, rP n.ba, oM n.sent, rMs n.sent, oM n.back, rMs n.back, oM n.gB, rMs n.gB, oM n.gA, rMs n.gA]) (Pulls.cons pul (Pulls.cons pul (Pulls.cons pul (Pulls.cons pul (Pulls.cons pul (Pulls.cons pul (Pulls.cons pul (Pulls.cons pul (Pulls.cons pul (Pulls.cons pul (Pulls.cons pul (Pulls.cons pul (Pulls.cons pul (Pulls.cons pul (Pulls.cons pul Pulls.nil))))))))))))))) ?_ ?_
  · rintro L' hL'
    simp only [List.cons_append, List.nil_append] at hL'
    subst hL'
    refine TC.seq (TC.region ?_)
    refine TL.val rfl rfl rfl (by first | exact Y.fieldAddrJ rfl fo42_0 rfl nqq | exact Y.fieldAddr rfl fo42_0 rfl nqq) ?_
    refine TL.val rfl rfl rfl (Y.load rfl sc3 rfl celN) ?_
    refine TL.as (vI 1) (by rfl) ?_
    refine TL.nil (TQ.next (TC.block (TC.seq (TC.seq (TC.region ?_)))))
    refine TL.val rfl rfl rfl (Y.bin rfl rfl rfl (br_eqN (n := 1))) ?_
    refine TL.is true isf ?_
    refine TL.sg ?_
    refine TL.nil (TQ.next ?_)
    refine TC.cond_t rfl ?_
    refine TC.skip (TQ.next ?_)
    refine TC.cond_t rfl ?_
    refine TC.seq (TC.region ?_)
    refine TL.val rfl rfl rfl (by first | exact Y.fieldAddrJ rfl fo42_3 rfl nqq | exact Y.fieldAddr rfl fo42_3 rfl nqq) ?_
    refine TL.val rfl rfl rfl (Y.load rfl sc23 rfl celD) ?_
    refine TL.as (.slice d.a d.l.length d.cap) (by rfl) ?_
    refine TL.sg ?_
    refine TL.nil (TQ.next ?_)
    refine TC.cutF (ι := Unit) [] (fun _ => True) (fun _ => [(4, some (.slice d.a (d.l.take 200).length d.cap))]) (fun _ => []) (Ao := []) Pulls.nil ?_ ?_
    · rintro L' hL'
      simp only [List.cons_append, List.nil_append] at hL'
      subst hL'
      refine TC.seq (TC.region ?_)
      refine TL.mv ?_
      refine TL.val rfl rfl rfl (Y.len rfl Try.underlying23 rfl) ?_
      refine TL.val rfl rfl rfl (Y.bin rfl rfl rfl (br_gtN (n := 200))) ?_
      refine TL.nil (TQ.next ?_)
      refine TC.cond rfl (fun c2 => ?_) (fun c2 => ?_)
      · try simp only [zA, zB, zC, zD, zE, zF, zG, zH, zI, zJ] at c2
        refine TC.know (dat_cap (a := d.a) (cap := d.cap) (l := d.l) inn) ?_
        rintro ⟨hdc, -, -⟩
        refine TC.region ?_
        refine TL.mv ?_
        refine TL.val rfl rfl rfl (Y.sliceHi2 (k := 200) rfl Try.underlying23 sz5 rfl rfl (by omega)) ?_
        refine TL.as (.slice d.a (d.l.take 200).length d.cap) (by (rw [List.length_take, Nat.min_eq_left (by omega)])) ?_
        refine TL.sg ?_
        refine TL.nil ?_
        refine TQ.meetF (()) (trivial) (by first | exact ⟨rfl, trivial⟩ | exact ⟨by rw [hd2]; rfl, trivial⟩) grw ?_ ?_
        · kernel_rfl
        · simp only [List.cons_append, List.nil_append]
          exact ett
      · try simp only [zA, zB, zC, zD, zE, zF, zG, zH, zI, zJ] at c2
        have hd2 : d.l.take 200 = d.l := List.take_of_length_le (by omega)
        refine TC.skip ?_
        refine TQ.meetF (()) (trivial) (by first | exact ⟨rfl, trivial⟩ | exact ⟨by rw [hd2]; rfl, trivial⟩) grw ?_ ?_
        · kernel_rfl
        · simp only [List.cons_append, List.nil_append]
          exact ett
    · rintro ⟨⟩ - F' L' rfl hL'
      simp only [List.cons_append, List.nil_append] at hL'
      subst hL'
      refine TC.seq ?_
      refine TC.to ((Pull.ent (A := SA.dat d) pul).trans Ent.headD) ?_
      obtain ⟨e, he⟩ : ∃ e, e = d.l.take 200 := ⟨_, rfl⟩
      have hel : e.length ≤ 200 := by rw [he, List.length_take]; omega
      rw [← he]
      refine TC.region ?_
      refine TL.val rfl rfl rfl (by first | exact Y.fieldAddrJ rfl fo42_1 rfl nqq | exact Y.fieldAddr rfl fo42_1 rfl nqq) ?_
      refine TL.val rfl rfl rfl (Y.load rfl sc3 rfl celN) ?_
      refine TL.as (vI N) (by rfl) ?_
      refine TL.val rfl rfl rfl (Y.bin rfl rfl rfl (br_remI (n := 3) (by decide))) ?_
      refine TL.val rfl rfl rfl (Y.conv rfl Try.underlying3 Try.underlying40 rfl (strm_v N)) ?_
      refine TL.mv ?_
      refine TL.val rfl rfl rfl (Y.buildS (cells := msC (strm N) 51 (.slice d.a e.length d.cap)) rfl rfl pl77 zc77 (by kernel_rfl)) ?_
      refine TL.eff rfl rfl rfl (X.alloc rfl zc77) ?_
      rintro _ _ ⟨b5, rfl, rfl⟩
      refine TL.eff0 rfl rfl (by first | exact X.storeAll rfl sz77 (by rfl) rfl rfl (allOne (by rfl)) pul (by rfl) | exact X.storeAll rfl sz77 szz rfl rfl (by simp [Value.oneCell']) pul szz | exact X.storeAgg rfl sz77 szz rfl rfl (by simp [Value.oneCell']) pul szz (writeM (by ((try simp only [List.length_set, List.length_map, List.length_append, List.length_replicate]); omega)))) ?_
      rintro _ _ rfl
      refine TL.nil (TQ.next (TC.seq (TC.region ?_)))
      refine TL.val rfl rfl rfl (by first | exact Y.fieldAddrJ rfl fo42_0 rfl nqq | exact Y.fieldAddr rfl fo42_0 rfl nqq) ?_
      refine TL.val rfl rfl rfl (Y.load rfl sc3 rfl celN) ?_
      refine TL.as (vI 1) (by rfl) ?_
      refine TL.val rfl rfl rfl (Y.bin rfl rfl rfl (br_eqN (n := 1))) ?_
      refine TL.is true isf ?_
      refine TL.nil (TQ.next ?_)
      refine TC.cond_t rfl ?_
      refine TC.seq ?_
      refine TC.draws 10 [nB nb n, SA.blk b5 (msC (strm N) 51 (.slice d.a e.length d.cap)) 77] (by kernel_rfl) (by kernel_rfl) hld ?_
      refine TA.tp 0 rfl rfl (Y.move rfl rfl) ?_
      refine TA.tp 1 rfl rfl (Y.nilCheck rfl rfl) ?_
      refine TA.tp 2 rfl rfl (by first | exact Y.fieldAddrJ rfl fo46_0 rfl nqq | exact Y.fieldAddr rfl fo46_0 rfl nqq) ?_
      refine TA.tk 3 rfl rfl (Y.load rfl sc26 rfl celD) ?_
      refine TA.as (pt n.a 0) (by rfl) ?_
      refine TA.tp 6 rfl rfl (Y.move rfl rfl) ?_
      refine TA.tp 7 rfl rfl (Y.nilCheck rfl rfl) ?_
      refine TA.tp 8 rfl rfl (by first | exact Y.fieldAddrJ rfl fo46_8 rfl nqq | exact Y.fieldAddr rfl fo46_8 rfl nqq) ?_
      refine TA.tk 9 rfl rfl (Y.load rfl sc2 rfl celN) ?_
      refine TA.as (vI n.now) (by rfl) ?_
      refine TA.one 4 (by kernel_rfl) rfl rfl rfl rfl (Eff.val (fun _ h => by cases h) (Y.loadAgg rfl ag77 rfl (by first | exact Cels.datAt inn (by assumption) | exact Cels.full inn) (by first | rfl | ((try simp only [List.length_map, List.length_set, List.length_replicate]); omega)))) ?_
      rintro _ _ ⟨rfl, rfl⟩
      refine ⟨Or.inr hld, ?_⟩
      refine TA.as (.agg (msC (strm N) 51 (.slice d.a e.length d.cap))) (by rfl) ?_
      refine TA.one 5 (by kernel_rfl) rfl rfl rfl rfl (X.cl rfl Try.func39 rfl (h := (theirs_fn (strm N) 51 d.a e.length d.cap e rfl (by omega) _))) ?_
      rintro _ _ ⟨ta, tc, rfl, rfl⟩
      refine ⟨(Or.inr hld), ?_⟩
      refine TA.one 10 (by kernel_rfl) rfl rfl rfl rfl (X.cl rfl Try.func19 rfl (h := (Send_fn n.a A hF.a.toInvP (strm N) 51 ta e.length tc e rfl (by omega) n.now _))) ?_
      rintro _ _ ⟨o, rfl, ho, rfl⟩
      have hol : o.l.length ≤ 16 := by have := congrArg List.length ho; rw [List.length_map] at this; rw [this]; exact send_len _ _ _
      refine ⟨(Or.inl (by kernel_rfl)), ?_⟩
      refine TA.tp 11 rfl rfl (Y.move rfl rfl) ?_
      refine TA.tp 12 rfl rfl (Y.extract rfl rfl rfl) ?_
      refine TA.as (.slice o.a o.l.length o.cap) (by rfl) ?_
      refine TA.tp 13 rfl rfl (Y.extract rfl rfl rfl) ?_
      refine TA.as (vN (A.sendP (strm N, 51, e) n.now).2.2) (by rfl) ?_
      refine TA.tp 14 rfl rfl (Y.assign rfl rfl) ?_
      refine TA.tp 15 rfl rfl (Y.assign rfl rfl) ?_
      refine TA.done (by kernel_rfl) ?_
      refine TQ.next (TC.seq (TC.region ?_))
      refine TL.mv ?_
      refine TL.mv ?_
      refine TL.nc ?_
      refine TL.val rfl rfl rfl (by first | exact Y.fieldAddrJ rfl fo46_2 rfl nqq | exact Y.fieldAddr rfl fo46_2 rfl nqq) ?_
      refine TL.val rfl rfl rfl (Y.load rfl sc24 rfl celD) ?_
      refine TL.as (.slice n.ab.a n.ab.l.length n.ab.cap) (by rfl) ?_
      refine TL.mv ?_
      refine TL.eff rfl rfl rfl (X.appendS rfl el24 rfl pul rfl (Src.reads (Reads.dat (s := o)) Try.underlying24 inn) (by simp only [maxLen]; omega) (by omega)) ?_
      rintro _ _ ⟨a61, c61, rfl, rfl⟩
      rw [show Dat.cs n.ab.l ++ Dat.cs o.l = Dat.cs (n.ab.l ++ o.l) from (Dat.cs_app _ _).symm, ← List.length_append]
      refine TL.nc ?_
      refine TL.val rfl rfl rfl (by first | exact Y.fieldAddrJ rfl fo46_2 rfl nqq | exact Y.fieldAddr rfl fo46_2 rfl nqq) ?_
      refine TL.eff0 rfl rfl (X.store (cs' := netC { n with ab := ⟨a61, c61, n.ab.l ++ o.l⟩ }) rfl (by kernel_rfl) rfl rfl rfl pul (by show 2 < 9; decide) rfl) ?_
      rintro _ _ rfl
      refine TL.nil (TQ.next (TC.seq ?_))
      refine TC.to (Ent.addAll (o := o) (ys := n.ab.l) pul pul) ?_
      refine TC.region ?_
      refine TL.mv ?_
      refine TL.val rfl rfl rfl (Y.bin rfl rfl rfl (br_eqN (n := 0))) ?_
      refine TL.nil (TQ.next ?_)
      refine TC.cond rfl (fun c4 => ?_) (fun c4 => ?_)
      · try simp only [zA, zB, zC, zD, zE, zF, zG, zH, zI, zJ] at c4
        refine TC.draws 10 [nB nb { n with ab := ⟨a61, c61, n.ab.l ++ o.l⟩ }, SA.blk b5 (msC (strm N) 51 (.slice d.a e.length d.cap)) 77] (by kernel_rfl) (by kernel_rfl) hld ?_
        refine TA.tk 0 rfl rfl (Y.move rfl rfl) ?_
        refine TA.tk 1 rfl rfl (Y.move rfl rfl) ?_
        refine TA.tk 2 rfl rfl (Y.nilCheck rfl rfl) ?_
        refine TA.tk 3 rfl rfl (by first | exact Y.fieldAddrJ rfl fo46_4 rfl nqq | exact Y.fieldAddr rfl fo46_4 rfl nqq) ?_
        refine TA.tk 4 rfl rfl (Y.load rfl sc44 rfl celD) ?_
        refine TA.as (.slice n.sent.a n.sent.l.length n.sent.cap) (by rfl) ?_
        refine TA.tk 5 rfl rfl (Y.loadAgg rfl ag77 rfl (by first | exact Cels.datAt inn (by assumption) | exact Cels.full inn) (by first | rfl | ((try simp only [List.length_map, List.length_set, List.length_replicate]); omega))) ?_
        refine TA.as (.agg (Dat.c ((strm N, 51, ⟨d.a, d.cap, e⟩) : Msg)).toArray) (by rfl) ?_
        refine TA.one 6 (by kernel_rfl) rfl rfl rfl rfl (X.litD (sz := 3) ((strm N, 51, ⟨d.a, d.cap, e⟩) : Msg) rfl Try.underlying44 (by kernel_rfl) rfl rfl (by decide)) ?_
        rintro _ _ ⟨g72, rfl, rfl⟩
        refine ⟨(Or.inr hld), ?_⟩
        refine TA.one 7 (by kernel_rfl) rfl rfl rfl rfl (X.appendS rfl el44 rfl pul rfl (by first | exact Src.owns Try.underlying44 inn | exact Src.rds Try.underlying44 inn | exact Src.reads (by assumption) Try.underlying44 inn) (by simp only [maxLen]; omega) (by omega)) ?_
        rintro _ _ ⟨a73, c73, rfl, rfl⟩
        rw [show Dat.cs n.sent.l ++ Dat.c ((strm N, 51, ⟨d.a, d.cap, e⟩) : Msg) = Dat.cs (n.sent.l ++ [((strm N, 51, ⟨d.a, d.cap, e⟩) : Msg)]) by rw [Dat.cs_app, Dat.cs_one], show n.sent.l.length + 1 = (n.sent.l ++ [((strm N, 51, ⟨d.a, d.cap, e⟩) : Msg)]).length by rw [List.length_append]; rfl]
        refine ⟨(Or.inr hld), ?_⟩
        refine TA.tp 8 rfl rfl (Y.nilCheck rfl rfl) ?_
        refine TA.tk 9 rfl rfl (by first | exact Y.fieldAddrJ rfl fo46_4 rfl nqq | exact Y.fieldAddr rfl fo46_4 rfl nqq) ?_
        refine TA.one0 10 (by kernel_rfl) rfl rfl rfl (X.store (cs' := netC { n with ab := ⟨a61, c61, n.ab.l ++ o.l⟩, sent := ⟨a73, c73, n.sent.l ++ [((strm N, 51, ⟨d.a, d.cap, e⟩) : Msg)]⟩ }) rfl (by kernel_rfl) rfl rfl rfl pul (by show 4 < 9; decide) rfl) ?_
        rintro _ _ rfl
        refine ⟨(Or.inl (by kernel_rfl)), ?_⟩
        refine TA.done (by kernel_rfl) ?_
        refine TQ.to (Ent.addM (ys := n.sent.l) (st := strm N) (kd := 51) (bs := ⟨d.a, d.cap, e⟩) pul pul) ?_
        obtain ⟨sx, hsx⟩ : ∃ s : Sl Msg, s = ⟨a73, c73, n.sent.l ++ [((strm N, 51, ⟨d.a, d.cap, e⟩) : Msg)]⟩ := ⟨_, rfl⟩
        have hsi : sx.l.map pm = n.sent.l.map pm ++ if (A.sendP (strm N, 51, e) n.now).2.2 = 0 then [(strm N, 51, e)] else [] := by rw [hsx, if_pos (by omega), List.map_append]; rfl
        refine TQ.block_normal ?_
        refine TQ.meetF (ι := NP × PS × PS) (I := fun i => absN i.1 i.2.1 i.2.2 = (absN n A B).send1 (mkM N d.l)) (C := fun (_ : NP × PS × PS) => []) (U := []) (({ n with ab := ⟨a61, c61, n.ab.l ++ o.l⟩, sent := sx }, (A.sendP (strm N, 51, e) n.now).1, B)) (send1_abs n A B (strm N, 51, e) ⟨a61, c61, n.ab.l ++ o.l⟩ sx o.l ho rfl hsi (by rw [he]; rfl)) trivial grw ?_ ?_
        · kernel_rfl
        · simp only [List.cons_append, List.nil_append]
          exact (by subst hsx; exact ett)
      · try simp only [zA, zB, zC, zD, zE, zF, zG, zH, zI, zJ] at c4
        obtain ⟨sx, hsx⟩ : ∃ s : Sl Msg, s = n.sent := ⟨_, rfl⟩
        have hsi : sx.l.map pm = n.sent.l.map pm ++ if (A.sendP (strm N, 51, e) n.now).2.2 = 0 then [(strm N, 51, e)] else [] := by rw [hsx, if_neg (by omega), List.append_nil]
        refine TC.skip (TQ.block_normal ?_)
        refine TQ.meetF (ι := NP × PS × PS) (I := fun i => absN i.1 i.2.1 i.2.2 = (absN n A B).send1 (mkM N d.l)) (C := fun (_ : NP × PS × PS) => []) (U := []) (({ n with ab := ⟨a61, c61, n.ab.l ++ o.l⟩, sent := sx }, (A.sendP (strm N, 51, e) n.now).1, B)) (send1_abs n A B (strm N, 51, e) ⟨a61, c61, n.ab.l ++ o.l⟩ sx o.l ho rfl hsi (by rw [he]; rfl)) trivial grw ?_ ?_
        · kernel_rfl
        · simp only [List.cons_append, List.nil_append]
          exact (by subst hsx; exact ett)
  · rintro ⟨n1, A1, B1⟩ hX1 F' L' rfl hL'
    simp only [List.cons_append, List.nil_append] at hL'
    subst hL'
    simp only at hX1 ⊢
    refine TC.cutF (ι := Unit) [] (fun _ => True) (fun _ => []) (fun _ => [nB nb { n1 with ab := clipS n1.ab }, oP (clipS n1.ab), rP (clipS n1.ab)]) (Ao := [nB nb n1, oP n1.ab, rP n1.ab]) (Pulls.cons pul (Pulls.cons pul (Pulls.cons pul Pulls.nil))) ?_ ?_
    · rintro L' hL'
      simp only [List.cons_append, List.nil_append] at hL'
      subst hL'
      refine TC.seq (TC.region ?_)
      refine TL.mv ?_
      refine TL.nc ?_
      refine TL.val rfl rfl rfl (by first | exact Y.fieldAddrJ rfl fo46_2 rfl nqq | exact Y.fieldAddr rfl fo46_2 rfl nqq) ?_
      refine TL.val rfl rfl rfl (Y.load rfl sc24 rfl celD) ?_
      refine TL.as (.slice n1.ab.a n1.ab.l.length n1.ab.cap) (by rfl) ?_
      refine TL.val rfl rfl rfl (Y.len rfl Try.underlying24 rfl) ?_
      refine TL.val rfl rfl rfl (Y.bin rfl rfl rfl (br_gtN (n := 200))) ?_
      refine TL.nil (TQ.next ?_)
      refine TC.cond rfl (fun c5 => ?_) (fun c5 => ?_)
      · try simp only [zA, zB, zC, zD, zE, zF, zG, zH, zI, zJ] at c5
        refine TC.know (reads_cap Reads.owns (a := n1.ab.a) (n := n1.ab.l.length) (cap := n1.ab.cap) (cs := Dat.cs n1.ab.l) inn) ?_
        rintro ⟨hcap, -, -, -⟩
        refine TC.region ?_
        refine TL.mv ?_
        refine TL.mv ?_
        refine TL.nc ?_
        refine TL.val rfl rfl rfl (by first | exact Y.fieldAddrJ rfl fo46_2 rfl nqq | exact Y.fieldAddr rfl fo46_2 rfl nqq) ?_
        refine TL.val rfl rfl rfl (Y.load rfl sc24 rfl celD) ?_
        refine TL.as (.slice n1.ab.a n1.ab.l.length n1.ab.cap) (by rfl) ?_
        refine TL.val rfl rfl rfl (Y.sliceHi2 (k := 200) rfl Try.underlying24 sz23 rfl rfl (by omega)) ?_
        refine TL.as (.slice n1.ab.a (n1.ab.l.take 200).length n1.ab.cap) (by (rw [List.length_take, Nat.min_eq_left (by omega)])) ?_
        refine TL.nc ?_
        refine TL.val rfl rfl rfl (by first | exact Y.fieldAddrJ rfl fo46_2 rfl nqq | exact Y.fieldAddr rfl fo46_2 rfl nqq) ?_
        refine TL.eff0 rfl rfl (X.store (cs' := netC { n1 with ab := clipS n1.ab }) rfl (by kernel_rfl) rfl rfl rfl pul (by show 2 < 9; decide) rfl) ?_
        rintro _ _ rfl
        refine TL.nil ?_
        refine TQ.to (Ent.clipO (s := n1.ab) pul pul (by omega) hcap) ?_
        refine TQ.meetF (ι := Unit) (I := fun _ => True) (C := fun (_ : Unit) => []) (U := []) (()) (trivial) trivial grw ?_ ?_
        · kernel_rfl
        · simp only [List.cons_append, List.nil_append]
          exact (by first | (rw [hcl, hcm]; exact ett) | exact ett)
      · try simp only [zA, zB, zC, zD, zE, zF, zG, zH, zI, zJ] at c5
        have hcl : ({ n1 with ab := clipS n1.ab } : NP) = n1 := by rw [clipS_id (by omega)]
        have hcm : clipS n1.ab = n1.ab := clipS_id (by omega)
        refine TC.skip ?_
        refine TQ.meetF (ι := Unit) (I := fun _ => True) (C := fun (_ : Unit) => []) (U := []) (()) (trivial) trivial grw ?_ ?_
        · kernel_rfl
        · simp only [List.cons_append, List.nil_append]
          exact (by first | (rw [hcl, hcm]; exact ett) | exact ett)
    · rintro ⟨⟩ - F' L' rfl hL'
      simp only [List.cons_append, List.nil_append] at hL'
      subst hL'
      refine TC.seq (TC.region ?_)
      refine TL.mv ?_
      refine TL.nc ?_
      refine TL.val rfl rfl rfl (by first | exact Y.fieldAddrJ rfl fo46_3 rfl nqq | exact Y.fieldAddr rfl fo46_3 rfl nqq) ?_
      refine TL.val rfl rfl rfl (Y.load rfl sc24 rfl celD) ?_
      refine TL.as (.slice n1.ba.a n1.ba.l.length n1.ba.cap) (by rfl) ?_
      refine TL.val rfl rfl rfl (Y.len rfl Try.underlying24 rfl) ?_
      refine TL.val rfl rfl rfl (Y.bin rfl rfl rfl (br_gtN (n := 200))) ?_
      refine TL.nil (TQ.next ?_)
      refine TC.cond rfl (fun c6 => ?_) (fun c6 => ?_)
      · try simp only [zA, zB, zC, zD, zE, zF, zG, zH, zI, zJ] at c6
        refine TC.know (reads_cap Reads.owns (a := n1.ba.a) (n := n1.ba.l.length) (cap := n1.ba.cap) (cs := Dat.cs n1.ba.l) inn) ?_
        rintro ⟨hcap, -, -, -⟩
        refine TC.region ?_
        refine TL.mv ?_
        refine TL.mv ?_
        refine TL.nc ?_
        refine TL.val rfl rfl rfl (by first | exact Y.fieldAddrJ rfl fo46_3 rfl nqq | exact Y.fieldAddr rfl fo46_3 rfl nqq) ?_
        refine TL.val rfl rfl rfl (Y.load rfl sc24 rfl celD) ?_
        refine TL.as (.slice n1.ba.a n1.ba.l.length n1.ba.cap) (by rfl) ?_
        refine TL.val rfl rfl rfl (Y.sliceHi2 (k := 200) rfl Try.underlying24 sz23 rfl rfl (by omega)) ?_
        refine TL.as (.slice n1.ba.a (n1.ba.l.take 200).length n1.ba.cap) (by (rw [List.length_take, Nat.min_eq_left (by omega)])) ?_
        refine TL.nc ?_
        refine TL.val rfl rfl rfl (by first | exact Y.fieldAddrJ rfl fo46_3 rfl nqq | exact Y.fieldAddr rfl fo46_3 rfl nqq) ?_
        refine TL.eff0 rfl rfl (X.store (cs' := netC { n1 with ab := clipS n1.ab, ba := clipS n1.ba }) rfl (by kernel_rfl) rfl rfl rfl pul (by show 3 < 9; decide) rfl) ?_
        rintro _ _ rfl
        refine TL.nil ?_
        refine TQ.to (Ent.clipO (s := n1.ba) pul pul (by omega) hcap) ?_
        refine TQ.endE (res0 rfl) (⟨{ n1 with ab := clipS n1.ab, ba := clipS n1.ba }, A1, B1, (absN_clip n1 A1 B1).trans (congrArg PN.clip hX1), rfl⟩) ?_
        exact (by simp only [NAt, List.cons_append, List.nil_append]; first | (rw [hcl, hcm]; exact ett) | exact ett)
      · try simp only [zA, zB, zC, zD, zE, zF, zG, zH, zI, zJ] at c6
        have hcl : ({ n1 with ab := clipS n1.ab, ba := clipS n1.ba } : NP) = { n1 with ab := clipS n1.ab } := by rw [clipS_id (s := n1.ba) (by omega)]
        have hcm : clipS n1.ba = n1.ba := clipS_id (by omega)
        refine TC.skip ?_
        refine TQ.endE (res0 rfl) (⟨{ n1 with ab := clipS n1.ab, ba := clipS n1.ba }, A1, B1, (absN_clip n1 A1 B1).trans (congrArg PN.clip hX1), rfl⟩) ?_
        exact (by simp only [NAt, List.cons_append, List.nil_append]; first | (rw [hcl, hcm]; exact ett) | exact ett)
theorem send2_abs (n : NP) (A B : PS) (m : PM) (b : Sl Bs) (s : Sl Msg) (ol : List Bs) (ho : ol.map (·.l) = (B.sendP m n.now).2.1) (hb : b.l = n.ba.l ++ ol) (hs : s.l.map pm = n.back.l.map pm ++ if (B.sendP m n.now).2.2 = 0 then [m] else []) {m' : PM} (hm : m = m') :
    absN { n with ba := b, back := s } A (B.sendP m n.now).1 = (absN n A B).send2 m' := by
  subst hm
  have h1 : outs b = outs n.ba ++ (B.sendP m n.now).2.1 := by unfold outs; rw [hb, List.map_append, ho]
  show PN.mk _ _ _ _ _ _ _ _ _ = PN.mk _ _ _ _ _ _ _ _ _
  rw [h1, hs]; rfl
set_option maxHeartbeats 4000000 in
theorem stp2_fn (nb : Nat) (n : NP) (A B : PS) (hF : Fits (absN n A B)) (N : Int) (kp : Bool) (d : Bs) (hd : d.l.length ≤ 140737488351232) (nw : UInt16) (L : List SA) :
    Fn Try.prog 16 [pt nb 0, .agg (netArg 2 N kp d.v nw)] (NAt nb n A B ++ SA.dat d :: L) (StepR nb ((absN n A B).send2 (mkM N d.l)).clip (SA.dat d :: L)) := by
  obtain ⟨hn1, hn2, hn3, hn4, hn5, hn6⟩ := hF.lens
  have hnow : 0 ≤ n.now ∧ n.now ≤ 1000000000000 := hF.now
  simp only [NAt, List.cons_append, List.nil_append]
  refine Fn.of (N := 367) Try.func16 rfl rfl ?_
  intro Xh
  refine TC.seq (TC.region ?_)
  refine TL.eff rfl rfl rfl (X.box (cs := netArg 2 N kp d.v nw) rfl rfl rfl) ?_
  rintro _ _ ⟨b3, rfl, rfl⟩
  refine TL.nil (TQ.next ?_)
  refine TC.cutF (ι := NP × PS × PS) [] (fun i => absN i.1 i.2.1 i.2.2 = (absN n A B).send2 (mkM N d.l)) (fun i => []) (fun i => [nB nb i.1, SD i.1.a i.2.1, SD i.1.b i.2.2, oP i.1.ab, rP i.1.ab, oP i.1.ba, rP i.1.ba, oM i.1.sent, rMs i.1.sent, oM i.1.back, rMs i.1.back, oM i.1.gB, rMs i.1.gB, oM i.1.gA, rMs i.1.gA]) (Ao := [nB nb n, SD n.a A, SD n.b B, oP n.ab, rP n.ab, oP n.ba, rP n.ba, oM n.sent, rMs n.sent, oM n.back, rMs n.back, oM n.gB, rMs n.gB, oM n.gA, rMs n.gA]) (Pulls.cons pul (Pulls.cons pul (Pulls.cons pul (Pulls.cons pul (Pulls.cons pul (Pulls.cons pul (Pulls.cons pul (Pulls.cons pul (Pulls.cons pul (Pulls.cons pul (Pulls.cons pul (Pulls.cons pul (Pulls.cons pul (Pulls.cons pul (Pulls.cons pul Pulls.nil))))))))))))))) ?_ ?_
  · rintro L' hL'
    simp only [List.cons_append, List.nil_append] at hL'
    subst hL'
    refine TC.seq (TC.region ?_)
    refine TL.val rfl rfl rfl (by first | exact Y.fieldAddrJ rfl fo42_0 rfl nqq | exact Y.fieldAddr rfl fo42_0 rfl nqq) ?_
    refine TL.val rfl rfl rfl (Y.load rfl sc3 rfl celN) ?_
    refine TL.as (vI 2) (by rfl) ?_
    refine TL.nil (TQ.next (TC.block (TC.seq (TC.seq (TC.region ?_)))))
    refine TL.val rfl rfl rfl (Y.bin rfl rfl rfl (br_eqN (n := 1))) ?_
    refine TL.is false isf ?_
    refine TL.sg ?_
    refine TL.nil (TQ.next ?_)
    refine TC.cond_f rfl ?_
    refine TC.region ?_
    refine TL.val rfl rfl rfl (Y.bin rfl rfl rfl (br_eqN (n := 2))) ?_
    refine TL.is true isf ?_
    refine TL.sg ?_
    refine TL.nil (TQ.next ?_)
    refine TC.cond_t rfl ?_
    refine TC.seq (TC.region ?_)
    refine TL.val rfl rfl rfl (by first | exact Y.fieldAddrJ rfl fo42_3 rfl nqq | exact Y.fieldAddr rfl fo42_3 rfl nqq) ?_
    refine TL.val rfl rfl rfl (Y.load rfl sc23 rfl celD) ?_
    refine TL.as (.slice d.a d.l.length d.cap) (by rfl) ?_
    refine TL.sg ?_
    refine TL.nil (TQ.next ?_)
    refine TC.cutF (ι := Unit) [] (fun _ => True) (fun _ => [(4, some (.slice d.a (d.l.take 200).length d.cap))]) (fun _ => []) (Ao := []) Pulls.nil ?_ ?_
    · rintro L' hL'
      simp only [List.cons_append, List.nil_append] at hL'
      subst hL'
      refine TC.seq (TC.region ?_)
      refine TL.mv ?_
      refine TL.val rfl rfl rfl (Y.len rfl Try.underlying23 rfl) ?_
      refine TL.val rfl rfl rfl (Y.bin rfl rfl rfl (br_gtN (n := 200))) ?_
      refine TL.nil (TQ.next ?_)
      refine TC.cond rfl (fun c2 => ?_) (fun c2 => ?_)
      · try simp only [zA, zB, zC, zD, zE, zF, zG, zH, zI, zJ] at c2
        refine TC.know (dat_cap (a := d.a) (cap := d.cap) (l := d.l) inn) ?_
        rintro ⟨hdc, -, -⟩
        refine TC.region ?_
        refine TL.mv ?_
        refine TL.val rfl rfl rfl (Y.sliceHi2 (k := 200) rfl Try.underlying23 sz5 rfl rfl (by omega)) ?_
        refine TL.as (.slice d.a (d.l.take 200).length d.cap) (by (rw [List.length_take, Nat.min_eq_left (by omega)])) ?_
        refine TL.sg ?_
        refine TL.nil ?_
        refine TQ.meetF (()) (trivial) (by first | exact ⟨rfl, trivial⟩ | exact ⟨by rw [hd2]; rfl, trivial⟩) grw ?_ ?_
        · kernel_rfl
        · simp only [List.cons_append, List.nil_append]
          exact ett
      · try simp only [zA, zB, zC, zD, zE, zF, zG, zH, zI, zJ] at c2
        have hd2 : d.l.take 200 = d.l := List.take_of_length_le (by omega)
        refine TC.skip ?_
        refine TQ.meetF (()) (trivial) (by first | exact ⟨rfl, trivial⟩ | exact ⟨by rw [hd2]; rfl, trivial⟩) grw ?_ ?_
        · kernel_rfl
        · simp only [List.cons_append, List.nil_append]
          exact ett
    · rintro ⟨⟩ - F' L' rfl hL'
      simp only [List.cons_append, List.nil_append] at hL'
      subst hL'
      refine TC.seq ?_
      refine TC.to ((Pull.ent (A := SA.dat d) pul).trans Ent.headD) ?_
      obtain ⟨e, he⟩ : ∃ e, e = d.l.take 200 := ⟨_, rfl⟩
      have hel : e.length ≤ 200 := by rw [he, List.length_take]; omega
      rw [← he]
      refine TC.region ?_
      refine TL.val rfl rfl rfl (by first | exact Y.fieldAddrJ rfl fo42_1 rfl nqq | exact Y.fieldAddr rfl fo42_1 rfl nqq) ?_
      refine TL.val rfl rfl rfl (Y.load rfl sc3 rfl celN) ?_
      refine TL.as (vI N) (by rfl) ?_
      refine TL.val rfl rfl rfl (Y.bin rfl rfl rfl (br_remI (n := 3) (by decide))) ?_
      refine TL.val rfl rfl rfl (Y.conv rfl Try.underlying3 Try.underlying40 rfl (strm_v N)) ?_
      refine TL.mv ?_
      refine TL.val rfl rfl rfl (Y.buildS (cells := msC (strm N) 51 (.slice d.a e.length d.cap)) rfl rfl pl77 zc77 (by kernel_rfl)) ?_
      refine TL.eff rfl rfl rfl (X.alloc rfl zc77) ?_
      rintro _ _ ⟨b5, rfl, rfl⟩
      refine TL.eff0 rfl rfl (by first | exact X.storeAll rfl sz77 (by rfl) rfl rfl (allOne (by rfl)) pul (by rfl) | exact X.storeAll rfl sz77 szz rfl rfl (by simp [Value.oneCell']) pul szz | exact X.storeAgg rfl sz77 szz rfl rfl (by simp [Value.oneCell']) pul szz (writeM (by ((try simp only [List.length_set, List.length_map, List.length_append, List.length_replicate]); omega)))) ?_
      rintro _ _ rfl
      refine TL.nil (TQ.next (TC.seq (TC.region ?_)))
      refine TL.val rfl rfl rfl (by first | exact Y.fieldAddrJ rfl fo42_0 rfl nqq | exact Y.fieldAddr rfl fo42_0 rfl nqq) ?_
      refine TL.val rfl rfl rfl (Y.load rfl sc3 rfl celN) ?_
      refine TL.as (vI 2) (by rfl) ?_
      refine TL.val rfl rfl rfl (Y.bin rfl rfl rfl (br_eqN (n := 1))) ?_
      refine TL.is false isf ?_
      refine TL.nil (TQ.next ?_)
      refine TC.cond_f rfl ?_
      refine TC.seq ?_
      refine TC.draws 10 [nB nb n, SA.blk b5 (msC (strm N) 51 (.slice d.a e.length d.cap)) 77] (by kernel_rfl) (by kernel_rfl) hld ?_
      refine TA.tp 0 rfl rfl (Y.move rfl rfl) ?_
      refine TA.tp 1 rfl rfl (Y.nilCheck rfl rfl) ?_
      refine TA.tp 2 rfl rfl (by first | exact Y.fieldAddrJ rfl fo46_1 rfl nqq | exact Y.fieldAddr rfl fo46_1 rfl nqq) ?_
      refine TA.tk 3 rfl rfl (Y.load rfl sc26 rfl celD) ?_
      refine TA.as (pt n.b 0) (by rfl) ?_
      refine TA.tp 6 rfl rfl (Y.move rfl rfl) ?_
      refine TA.tp 7 rfl rfl (Y.nilCheck rfl rfl) ?_
      refine TA.tp 8 rfl rfl (by first | exact Y.fieldAddrJ rfl fo46_8 rfl nqq | exact Y.fieldAddr rfl fo46_8 rfl nqq) ?_
      refine TA.tk 9 rfl rfl (Y.load rfl sc2 rfl celN) ?_
      refine TA.as (vI n.now) (by rfl) ?_
      refine TA.one 4 (by kernel_rfl) rfl rfl rfl rfl (Eff.val (fun _ h => by cases h) (Y.loadAgg rfl ag77 rfl (by first | exact Cels.datAt inn (by assumption) | exact Cels.full inn) (by first | rfl | ((try simp only [List.length_map, List.length_set, List.length_replicate]); omega)))) ?_
      rintro _ _ ⟨rfl, rfl⟩
      refine ⟨Or.inr hld, ?_⟩
      refine TA.as (.agg (msC (strm N) 51 (.slice d.a e.length d.cap))) (by rfl) ?_
      refine TA.one 5 (by kernel_rfl) rfl rfl rfl rfl (X.cl rfl Try.func39 rfl (h := (theirs_fn (strm N) 51 d.a e.length d.cap e rfl (by omega) _))) ?_
      rintro _ _ ⟨ta, tc, rfl, rfl⟩
      refine ⟨(Or.inr hld), ?_⟩
      refine TA.one 10 (by kernel_rfl) rfl rfl rfl rfl (X.cl rfl Try.func19 rfl (h := (Send_fn n.b B hF.b.toInvP (strm N) 51 ta e.length tc e rfl (by omega) n.now _))) ?_
      rintro _ _ ⟨o, rfl, ho, rfl⟩
      have hol : o.l.length ≤ 16 := by have := congrArg List.length ho; rw [List.length_map] at this; rw [this]; exact send_len _ _ _
      refine ⟨(Or.inl (by kernel_rfl)), ?_⟩
      refine TA.tp 11 rfl rfl (Y.move rfl rfl) ?_
      refine TA.tp 12 rfl rfl (Y.extract rfl rfl rfl) ?_
      refine TA.as (.slice o.a o.l.length o.cap) (by rfl) ?_
      refine TA.tp 13 rfl rfl (Y.extract rfl rfl rfl) ?_
      refine TA.as (vN (B.sendP (strm N, 51, e) n.now).2.2) (by rfl) ?_
      refine TA.tp 14 rfl rfl (Y.assign rfl rfl) ?_
      refine TA.tp 15 rfl rfl (Y.assign rfl rfl) ?_
      refine TA.done (by kernel_rfl) ?_
      refine TQ.next (TC.seq (TC.region ?_))
      refine TL.mv ?_
      refine TL.mv ?_
      refine TL.nc ?_
      refine TL.val rfl rfl rfl (by first | exact Y.fieldAddrJ rfl fo46_3 rfl nqq | exact Y.fieldAddr rfl fo46_3 rfl nqq) ?_
      refine TL.val rfl rfl rfl (Y.load rfl sc24 rfl celD) ?_
      refine TL.as (.slice n.ba.a n.ba.l.length n.ba.cap) (by rfl) ?_
      refine TL.mv ?_
      refine TL.eff rfl rfl rfl (X.appendS rfl el24 rfl pul rfl (Src.reads (Reads.dat (s := o)) Try.underlying24 inn) (by simp only [maxLen]; omega) (by omega)) ?_
      rintro _ _ ⟨a96, c96, rfl, rfl⟩
      rw [show Dat.cs n.ba.l ++ Dat.cs o.l = Dat.cs (n.ba.l ++ o.l) from (Dat.cs_app _ _).symm, ← List.length_append]
      refine TL.nc ?_
      refine TL.val rfl rfl rfl (by first | exact Y.fieldAddrJ rfl fo46_3 rfl nqq | exact Y.fieldAddr rfl fo46_3 rfl nqq) ?_
      refine TL.eff0 rfl rfl (X.store (cs' := netC { n with ba := ⟨a96, c96, n.ba.l ++ o.l⟩ }) rfl (by kernel_rfl) rfl rfl rfl pul (by show 3 < 9; decide) rfl) ?_
      rintro _ _ rfl
      refine TL.nil (TQ.next (TC.seq ?_))
      refine TC.to (Ent.addAll (o := o) (ys := n.ba.l) pul pul) ?_
      refine TC.region ?_
      refine TL.mv ?_
      refine TL.val rfl rfl rfl (Y.bin rfl rfl rfl (br_eqN (n := 0))) ?_
      refine TL.nil (TQ.next ?_)
      refine TC.cond rfl (fun c4 => ?_) (fun c4 => ?_)
      · try simp only [zA, zB, zC, zD, zE, zF, zG, zH, zI, zJ] at c4
        refine TC.draws 10 [nB nb { n with ba := ⟨a96, c96, n.ba.l ++ o.l⟩ }, SA.blk b5 (msC (strm N) 51 (.slice d.a e.length d.cap)) 77] (by kernel_rfl) (by kernel_rfl) hld ?_
        refine TA.tk 0 rfl rfl (Y.move rfl rfl) ?_
        refine TA.tk 1 rfl rfl (Y.move rfl rfl) ?_
        refine TA.tk 2 rfl rfl (Y.nilCheck rfl rfl) ?_
        refine TA.tk 3 rfl rfl (by first | exact Y.fieldAddrJ rfl fo46_5 rfl nqq | exact Y.fieldAddr rfl fo46_5 rfl nqq) ?_
        refine TA.tk 4 rfl rfl (Y.load rfl sc44 rfl celD) ?_
        refine TA.as (.slice n.back.a n.back.l.length n.back.cap) (by rfl) ?_
        refine TA.tk 5 rfl rfl (Y.loadAgg rfl ag77 rfl (by first | exact Cels.datAt inn (by assumption) | exact Cels.full inn) (by first | rfl | ((try simp only [List.length_map, List.length_set, List.length_replicate]); omega))) ?_
        refine TA.as (.agg (Dat.c ((strm N, 51, ⟨d.a, d.cap, e⟩) : Msg)).toArray) (by rfl) ?_
        refine TA.one 6 (by kernel_rfl) rfl rfl rfl rfl (X.litD (sz := 3) ((strm N, 51, ⟨d.a, d.cap, e⟩) : Msg) rfl Try.underlying44 (by kernel_rfl) rfl rfl (by decide)) ?_
        rintro _ _ ⟨g107, rfl, rfl⟩
        refine ⟨(Or.inr hld), ?_⟩
        refine TA.one 7 (by kernel_rfl) rfl rfl rfl rfl (X.appendS rfl el44 rfl pul rfl (by first | exact Src.owns Try.underlying44 inn | exact Src.rds Try.underlying44 inn | exact Src.reads (by assumption) Try.underlying44 inn) (by simp only [maxLen]; omega) (by omega)) ?_
        rintro _ _ ⟨a108, c108, rfl, rfl⟩
        rw [show Dat.cs n.back.l ++ Dat.c ((strm N, 51, ⟨d.a, d.cap, e⟩) : Msg) = Dat.cs (n.back.l ++ [((strm N, 51, ⟨d.a, d.cap, e⟩) : Msg)]) by rw [Dat.cs_app, Dat.cs_one], show n.back.l.length + 1 = (n.back.l ++ [((strm N, 51, ⟨d.a, d.cap, e⟩) : Msg)]).length by rw [List.length_append]; rfl]
        refine ⟨(Or.inr hld), ?_⟩
        refine TA.tp 8 rfl rfl (Y.nilCheck rfl rfl) ?_
        refine TA.tk 9 rfl rfl (by first | exact Y.fieldAddrJ rfl fo46_5 rfl nqq | exact Y.fieldAddr rfl fo46_5 rfl nqq) ?_
        refine TA.one0 10 (by kernel_rfl) rfl rfl rfl (X.store (cs' := netC { n with ba := ⟨a96, c96, n.ba.l ++ o.l⟩, back := ⟨a108, c108, n.back.l ++ [((strm N, 51, ⟨d.a, d.cap, e⟩) : Msg)]⟩ }) rfl (by kernel_rfl) rfl rfl rfl pul (by show 5 < 9; decide) rfl) ?_
        rintro _ _ rfl
        refine ⟨(Or.inl (by kernel_rfl)), ?_⟩
        refine TA.done (by kernel_rfl) ?_
        refine TQ.to (Ent.addM (ys := n.back.l) (st := strm N) (kd := 51) (bs := ⟨d.a, d.cap, e⟩) pul pul) ?_
        obtain ⟨sx, hsx⟩ : ∃ s : Sl Msg, s = ⟨a108, c108, n.back.l ++ [((strm N, 51, ⟨d.a, d.cap, e⟩) : Msg)]⟩ := ⟨_, rfl⟩
        have hsi : sx.l.map pm = n.back.l.map pm ++ if (B.sendP (strm N, 51, e) n.now).2.2 = 0 then [(strm N, 51, e)] else [] := by rw [hsx, if_pos (by omega), List.map_append]; rfl
        refine TQ.block_normal ?_
        refine TQ.meetF (ι := NP × PS × PS) (I := fun i => absN i.1 i.2.1 i.2.2 = (absN n A B).send2 (mkM N d.l)) (C := fun (_ : NP × PS × PS) => []) (U := []) (({ n with ba := ⟨a96, c96, n.ba.l ++ o.l⟩, back := sx }, A, (B.sendP (strm N, 51, e) n.now).1)) (send2_abs n A B (strm N, 51, e) ⟨a96, c96, n.ba.l ++ o.l⟩ sx o.l ho rfl hsi (by rw [he]; rfl)) trivial grw ?_ ?_
        · kernel_rfl
        · simp only [List.cons_append, List.nil_append]
          exact (by subst hsx; exact ett)
      · try simp only [zA, zB, zC, zD, zE, zF, zG, zH, zI, zJ] at c4
        obtain ⟨sx, hsx⟩ : ∃ s : Sl Msg, s = n.back := ⟨_, rfl⟩
        have hsi : sx.l.map pm = n.back.l.map pm ++ if (B.sendP (strm N, 51, e) n.now).2.2 = 0 then [(strm N, 51, e)] else [] := by rw [hsx, if_neg (by omega), List.append_nil]
        refine TC.skip (TQ.block_normal ?_)
        refine TQ.meetF (ι := NP × PS × PS) (I := fun i => absN i.1 i.2.1 i.2.2 = (absN n A B).send2 (mkM N d.l)) (C := fun (_ : NP × PS × PS) => []) (U := []) (({ n with ba := ⟨a96, c96, n.ba.l ++ o.l⟩, back := sx }, A, (B.sendP (strm N, 51, e) n.now).1)) (send2_abs n A B (strm N, 51, e) ⟨a96, c96, n.ba.l ++ o.l⟩ sx o.l ho rfl hsi (by rw [he]; rfl)) trivial grw ?_ ?_
        · kernel_rfl
        · simp only [List.cons_append, List.nil_append]
          exact (by subst hsx; exact ett)
  · rintro ⟨n1, A1, B1⟩ hX1 F' L' rfl hL'
    simp only [List.cons_append, List.nil_append] at hL'
    subst hL'
    simp only at hX1 ⊢
    refine TC.cutF (ι := Unit) [] (fun _ => True) (fun _ => []) (fun _ => [nB nb { n1 with ab := clipS n1.ab }, oP (clipS n1.ab), rP (clipS n1.ab)]) (Ao := [nB nb n1, oP n1.ab, rP n1.ab]) (Pulls.cons pul (Pulls.cons pul (Pulls.cons pul Pulls.nil))) ?_ ?_
    · rintro L' hL'
      simp only [List.cons_append, List.nil_append] at hL'
      subst hL'
      refine TC.seq (TC.region ?_)
      refine TL.mv ?_
      refine TL.nc ?_
      refine TL.val rfl rfl rfl (by first | exact Y.fieldAddrJ rfl fo46_2 rfl nqq | exact Y.fieldAddr rfl fo46_2 rfl nqq) ?_
      refine TL.val rfl rfl rfl (Y.load rfl sc24 rfl celD) ?_
      refine TL.as (.slice n1.ab.a n1.ab.l.length n1.ab.cap) (by rfl) ?_
      refine TL.val rfl rfl rfl (Y.len rfl Try.underlying24 rfl) ?_
      refine TL.val rfl rfl rfl (Y.bin rfl rfl rfl (br_gtN (n := 200))) ?_
      refine TL.nil (TQ.next ?_)
      refine TC.cond rfl (fun c5 => ?_) (fun c5 => ?_)
      · try simp only [zA, zB, zC, zD, zE, zF, zG, zH, zI, zJ] at c5
        refine TC.know (reads_cap Reads.owns (a := n1.ab.a) (n := n1.ab.l.length) (cap := n1.ab.cap) (cs := Dat.cs n1.ab.l) inn) ?_
        rintro ⟨hcap, -, -, -⟩
        refine TC.region ?_
        refine TL.mv ?_
        refine TL.mv ?_
        refine TL.nc ?_
        refine TL.val rfl rfl rfl (by first | exact Y.fieldAddrJ rfl fo46_2 rfl nqq | exact Y.fieldAddr rfl fo46_2 rfl nqq) ?_
        refine TL.val rfl rfl rfl (Y.load rfl sc24 rfl celD) ?_
        refine TL.as (.slice n1.ab.a n1.ab.l.length n1.ab.cap) (by rfl) ?_
        refine TL.val rfl rfl rfl (Y.sliceHi2 (k := 200) rfl Try.underlying24 sz23 rfl rfl (by omega)) ?_
        refine TL.as (.slice n1.ab.a (n1.ab.l.take 200).length n1.ab.cap) (by (rw [List.length_take, Nat.min_eq_left (by omega)])) ?_
        refine TL.nc ?_
        refine TL.val rfl rfl rfl (by first | exact Y.fieldAddrJ rfl fo46_2 rfl nqq | exact Y.fieldAddr rfl fo46_2 rfl nqq) ?_
        refine TL.eff0 rfl rfl (X.store (cs' := netC { n1 with ab := clipS n1.ab }) rfl (by kernel_rfl) rfl rfl rfl pul (by show 2 < 9; decide) rfl) ?_
        rintro _ _ rfl
        refine TL.nil ?_
        refine TQ.to (Ent.clipO (s := n1.ab) pul pul (by omega) hcap) ?_
        refine TQ.meetF (ι := Unit) (I := fun _ => True) (C := fun (_ : Unit) => []) (U := []) (()) (trivial) trivial grw ?_ ?_
        · kernel_rfl
        · simp only [List.cons_append, List.nil_append]
          exact (by first | (rw [hcl, hcm]; exact ett) | exact ett)
      · try simp only [zA, zB, zC, zD, zE, zF, zG, zH, zI, zJ] at c5
        have hcl : ({ n1 with ab := clipS n1.ab } : NP) = n1 := by rw [clipS_id (by omega)]
        have hcm : clipS n1.ab = n1.ab := clipS_id (by omega)
        refine TC.skip ?_
        refine TQ.meetF (ι := Unit) (I := fun _ => True) (C := fun (_ : Unit) => []) (U := []) (()) (trivial) trivial grw ?_ ?_
        · kernel_rfl
        · simp only [List.cons_append, List.nil_append]
          exact (by first | (rw [hcl, hcm]; exact ett) | exact ett)
    · rintro ⟨⟩ - F' L' rfl hL'
      simp only [List.cons_append, List.nil_append] at hL'
      subst hL'
      refine TC.seq (TC.region ?_)
      refine TL.mv ?_
      refine TL.nc ?_
      refine TL.val rfl rfl rfl (by first | exact Y.fieldAddrJ rfl fo46_3 rfl nqq | exact Y.fieldAddr rfl fo46_3 rfl nqq) ?_
      refine TL.val rfl rfl rfl (Y.load rfl sc24 rfl celD) ?_
      refine TL.as (.slice n1.ba.a n1.ba.l.length n1.ba.cap) (by rfl) ?_
      refine TL.val rfl rfl rfl (Y.len rfl Try.underlying24 rfl) ?_
      refine TL.val rfl rfl rfl (Y.bin rfl rfl rfl (br_gtN (n := 200))) ?_
      refine TL.nil (TQ.next ?_)
      refine TC.cond rfl (fun c6 => ?_) (fun c6 => ?_)
      · try simp only [zA, zB, zC, zD, zE, zF, zG, zH, zI, zJ] at c6
        refine TC.know (reads_cap Reads.owns (a := n1.ba.a) (n := n1.ba.l.length) (cap := n1.ba.cap) (cs := Dat.cs n1.ba.l) inn) ?_
        rintro ⟨hcap, -, -, -⟩
        refine TC.region ?_
        refine TL.mv ?_
        refine TL.mv ?_
        refine TL.nc ?_
        refine TL.val rfl rfl rfl (by first | exact Y.fieldAddrJ rfl fo46_3 rfl nqq | exact Y.fieldAddr rfl fo46_3 rfl nqq) ?_
        refine TL.val rfl rfl rfl (Y.load rfl sc24 rfl celD) ?_
        refine TL.as (.slice n1.ba.a n1.ba.l.length n1.ba.cap) (by rfl) ?_
        refine TL.val rfl rfl rfl (Y.sliceHi2 (k := 200) rfl Try.underlying24 sz23 rfl rfl (by omega)) ?_
        refine TL.as (.slice n1.ba.a (n1.ba.l.take 200).length n1.ba.cap) (by (rw [List.length_take, Nat.min_eq_left (by omega)])) ?_
        refine TL.nc ?_
        refine TL.val rfl rfl rfl (by first | exact Y.fieldAddrJ rfl fo46_3 rfl nqq | exact Y.fieldAddr rfl fo46_3 rfl nqq) ?_
        refine TL.eff0 rfl rfl (X.store (cs' := netC { n1 with ab := clipS n1.ab, ba := clipS n1.ba }) rfl (by kernel_rfl) rfl rfl rfl pul (by show 3 < 9; decide) rfl) ?_
        rintro _ _ rfl
        refine TL.nil ?_
        refine TQ.to (Ent.clipO (s := n1.ba) pul pul (by omega) hcap) ?_
        refine TQ.endE (res0 rfl) (⟨{ n1 with ab := clipS n1.ab, ba := clipS n1.ba }, A1, B1, (absN_clip n1 A1 B1).trans (congrArg PN.clip hX1), rfl⟩) ?_
        exact (by simp only [NAt, List.cons_append, List.nil_append]; first | (rw [hcl, hcm]; exact ett) | exact ett)
      · try simp only [zA, zB, zC, zD, zE, zF, zG, zH, zI, zJ] at c6
        have hcl : ({ n1 with ab := clipS n1.ab, ba := clipS n1.ba } : NP) = { n1 with ab := clipS n1.ab } := by rw [clipS_id (s := n1.ba) (by omega)]
        have hcm : clipS n1.ba = n1.ba := clipS_id (by omega)
        refine TC.skip ?_
        refine TQ.endE (res0 rfl) (⟨{ n1 with ab := clipS n1.ab, ba := clipS n1.ba }, A1, B1, (absN_clip n1 A1 B1).trans (congrArg PN.clip hX1), rfl⟩) ?_
        exact (by simp only [NAt, List.cons_append, List.nil_append]; first | (rw [hcl, hcm]; exact ett) | exact ett)
end ac
end Go.Proofs.Ytomplpdeeomehaa

