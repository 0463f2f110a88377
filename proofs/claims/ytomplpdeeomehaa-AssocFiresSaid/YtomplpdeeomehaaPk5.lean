/- The logic and the walks, in one text with others: part 5 of 6. -/
import Derived.Test.YtomplpdeeomehaaPk4
/- assoc: acked, walked. -/
namespace Go.Proofs.Ytomplpdeeomehaa
set_option linter.unusedVariables false
set_option linter.unusedSimpArgs false
open Go.RowKit
namespace ac
open wr (be16 be32)
open rd (num)
namespace FxAsQ
set_option maxRecDepth 100000
theorem el64 : Elt Try.prog 64 82 4 40 (.agg #[.int .u16 0, .int .u32 0, .slice none 0 0, .bool false]) := ⟨Try.underlying64, by kernel_rfl, rfl, by decide, by simp [Value.cells, Value.oneCell']⟩
theorem fo66_0 : Program.fieldOff Try.prog 66 0 = some 0 := by kernel_rfl
theorem fo68_10 : Program.fieldOff Try.prog 68 10 = some 10 := by kernel_rfl
theorem fo68_12 : Program.fieldOff Try.prog 68 12 = some 12 := by kernel_rfl
theorem fo68_8 : Program.fieldOff Try.prog 68 8 = some 8 := by kernel_rfl
theorem fo68_9 : Program.fieldOff Try.prog 68 9 = some 9 := by kernel_rfl
theorem fo82_1 : Program.fieldOff Try.prog 82 1 = some 3 := by kernel_rfl
theorem sc22 : Program.isSc Try.prog 22 = true := by kernel_rfl
theorem sc3 : Program.isSc Try.prog 3 = true := by kernel_rfl
theorem sc64 : Program.isSc Try.prog 64 = true := by kernel_rfl
theorem sl64 : Program.slI Try.prog 64 = some 4 := by kernel_rfl
end FxAsQ
open FxAsQ
section
variable {P : Program} {N : Nat} {F : FE} {As : List SA} {o : Oper} {x y : Operand}
theorem Y.sliceLoK {t e sz n cap k : Nat} {a : Option Addr} {kk : IntKind} (ho : o.op = .slice t x (some y) none none) (hu : P.underlying t = some (.slice e)) (hs : (P.info? e).map (·.size) = some sz) (hx : evO F x = some (.slice a n cap)) (hy : evO F y = some (.int kk (k : Int))) (hk : k ≤ n) : Yld P N o F As (cutV a cap k n sz) := fun a' w ha hw => by
  unfold execOp; rw [ho]
  replace hx := ha.eval hx
  replace hy := ha.eval hy
  generalize a'.eval = ρ at hx hy ⊢
  obtain ⟨inf, hinf, he⟩ := Option.map_eq_some_iff.1 hs
  subst he
  simp [hx, hy, Instr.sliceAt, Instr.slice, Instr.sliceBounds, Instr.sliceBound, asIntOf, run_underlying hu, sizeOf, typeInfo, hinf, go_sem, hk, cutV]
end
theorem tl_items (m : List Itm) (k : Nat) : ([] : List Value) ++ ((Dat.cs m).drop (k * 4)).take ((m.length - k) * 4) = Dat.cs (m.drop k) := by
  rw [Dat.cs_drop, List.nil_append, List.take_of_length_le (by rw [List.length_drop, Dat.cs_len]; show m.length * 4 - k * 4 ≤ _; omega)]
  rfl
def markQ {μ : Type} (base : UInt32) (sent : Nat) (q : List (μ × Bool)) (t : UInt32) : List (μ × Bool) := if t - base < UInt32.ofNat sent then q.modify (t - base).toNat fun x => (x.1, true) else q
theorem mark_eq {μ : Type} (S : AS μ) (q : List (μ × Bool)) (t : UInt32) : ({ S with queue := q } : AS μ).mark t = { S with queue := markQ S.base S.sent q t } := by
  unfold AS.mark markQ
  split <;> rfl
theorem modify_set {α : Type} {l : List α} {k : Nat} {x : α} (f : α → α) (hx : l[k]? = some x) : l.modify k f = l.set k (f x) := by
  apply List.ext_getElem?
  intro j
  rw [List.getElem?_modify, List.getElem?_set]
  by_cases h : k = j
  · subst h
    have h2 := List.getElem?_eq_some_iff.1 hx
    simp [h2.1, h2.2]
  · simp [h]
theorem cs_mark {l : List Itm} {k : Nat} (hk : k < l.length) : (Dat.cs l).set (k * 4 + 3) (.bool true) = Dat.cs (l.modify k fun x => (x.1, true)) := by
  obtain ⟨x, hx, -⟩ := getS hk
  rw [modify_set _ hx]
  obtain ⟨⟨st, kd, bs⟩, co⟩ := x
  exact Dat.cs_setE hx (show 3 < 4 by decide) rfl
theorem markQ_map {μ : Type} (base : UInt32) (sent : Nat) (q : List (μ × Bool)) (t : UInt32) : (markQ base sent q t).map (·.1) = q.map (·.1) := by
  unfold markQ
  split
  · apply List.ext_getElem?
    intro j
    rw [List.getElem?_map, List.getElem?_modify, List.getElem?_map]
    split <;> cases q[j]? <;> rfl
  · rfl
theorem items_g (q : List Itm) : q.flatMap Dat.g = (q.map (·.1)).flatMap Dat.g := by
  rw [List.flatMap_map]
  congr 1
  funext x
  exact List.append_nil _
theorem words_s {r : List UInt8} (h : 4 ≤ r.length) : words r = num (r.take 4) :: words (r.drop 4) := by
  rcases r with _ | ⟨a, _ | ⟨b, _ | ⟨c, _ | ⟨d, r⟩⟩⟩⟩ <;> simp at h
  rfl
section
variable (b : Nat) (p : AP) (S : AS Msg) (hsh : Short S) (hs : S.sent ≤ S.queue.length) (h16 : S.sent ≤ 16) (hq32 : S.queue.length ≤ 32) (rb : Nat) (l : List UInt8) (hl4 : 4 ≤ l.length) (hlm : l.length % 4 = 0)
include hsh hs h16 hq32 hl4 hlm

set_option maxHeartbeats 4000000 in
theorem acked_left (hlf : S.left (num (l.take 4)) = true) (L : List SA) : Fn Try.prog 38 [pt b 0, pt rb 0] (rd.R rb l false :: aB b p S :: aQ p S :: aD S :: L)
    (fun v L' => ∃ (o : Sl Bs) (p' : AP), p'.sa = p.sa ∧ p'.sc = p.sc ∧ p'.mb = p.mb ∧ p'.ha = p.ha ∧ p'.hc = p.hc ∧ v = o.v ∧ o.l.map (·.l) = (abs (S.ack1 (num (l.take 4)) (words (l.drop 4)))).moreOut ∧
      L' = SA.dat o :: aB b p' (S.ack1 (num (l.take 4)) (words (l.drop 4))).more :: aQ p' (S.ack1 (num (l.take 4)) (words (l.drop 4))) :: aD (S.ack1 (num (l.take 4)) (words (l.drop 4))) :: L) := by
  obtain ⟨n, hn⟩ : ∃ n, n = num (l.take 4) - S.base + 1 := ⟨_, rfl⟩
  have hsn : (UInt32.ofNat S.sent).toNat = S.sent := UInt32.toNat_ofNat_of_lt' (by show _ < 4294967296; omega)
  have hlf0 := hlf
  rw [AS.left, ← hn, decide_eq_true_eq] at hlf
  have hnn : n.toNat ≤ S.sent := by have := UInt32.le_iff_toNat_le.1 hlf.2; omega
  refine Fn.of (N := 93) Try.func38 rfl rfl ?_
  intro Xh
  refine TC.seq ?_
  refine TC.region ?_
  refine TL.val rfl rfl rfl (Y.assign rfl rfl) ?_
  refine TL.nil ?_
  refine TQ.next ?_
  refine TC.seq ?_
  refine TC.draws 9 [aB b p S, aQ p S, aD S] (by kernel_rfl) (by kernel_rfl) (by repeat first | exact holds_nil | refine holds_cons inn ?_) ?_
  refine TA.take 0 rfl rfl rfl rfl (by kernel_rfl) (by kernel_rfl) (by kernel_rfl) rfl (by kernel_rfl) (by kernel_rfl) (fun _ _ _ h => h) (Y.move rfl rfl) ?_
  refine TA.take 2 rfl rfl rfl rfl (by kernel_rfl) (by kernel_rfl) (by kernel_rfl) rfl (by kernel_rfl) (by kernel_rfl) (fun _ _ _ h => h) (Y.move rfl rfl) ?_
  refine TA.take 3 rfl rfl rfl rfl (by kernel_rfl) (by kernel_rfl) (by kernel_rfl) rfl (by kernel_rfl) (by kernel_rfl) (fun _ _ _ h => h) (Y.nilCheck rfl rfl) ?_
  refine TA.take 4 rfl rfl rfl rfl (by kernel_rfl) (by kernel_rfl) (by kernel_rfl) rfl (by kernel_rfl) (by kernel_rfl) (fun _ _ _ h => h) (by first | exact Y.fieldAddrJ rfl fo68_8 rfl nqq | exact Y.fieldAddr rfl fo68_8 rfl nqq) ?_
  refine TA.take 5 rfl rfl rfl rfl (by kernel_rfl) (by kernel_rfl) (by kernel_rfl) rfl (by kernel_rfl) (by kernel_rfl) (fun _ _ _ h => h) (Y.load rfl sc22 rfl cel32) ?_
  refine TA.as (v32 S.base) (by rfl) ?_
  refine TA.one 1 (by kernel_rfl) rfl rfl rfl rfl (X.call rfl Try.func27 (by kernel_rfl) rfl rfl (Fn.preE (by repeat first | (with_reducible apply Ent.refl) | (apply Ent.cons; case h => first | (with_reducible (repeat first | apply Pull.here | apply Pull.there); done) | (repeat first | apply Pull.here | apply Pull.there))) (u32_ok rb l hl4 _))) ?_
  rintro _ _ ⟨rfl, rfl⟩
  refine ⟨(Or.inr (by repeat first | exact holds_nil | refine holds_cons inn ?_)), ?_⟩
  refine TA.take 6 rfl rfl rfl rfl (by kernel_rfl) (by kernel_rfl) (by kernel_rfl) rfl (by kernel_rfl) (by kernel_rfl) (fun _ _ _ h => h) (Y.bin rfl rfl rfl (br_sub32)) ?_
  refine TA.take 7 rfl rfl rfl rfl (by kernel_rfl) (by kernel_rfl) (by kernel_rfl) rfl (by kernel_rfl) (by kernel_rfl) (fun _ _ _ h => h) (Y.bin rfl rfl rfl (br_add32 (y := 1))) ?_
  refine TA.as (v32 n) (by (rw [hn])) ?_
  refine TA.take 8 rfl rfl rfl rfl (by kernel_rfl) (by kernel_rfl) (by kernel_rfl) rfl (by kernel_rfl) (by kernel_rfl) (fun _ _ _ h => h) (Y.assign rfl rfl) ?_
  refine TA.done (by kernel_rfl) ?_
  refine TQ.next ?_
  refine TC.seq ?_
  refine TC.region ?_
  refine TL.val rfl rfl rfl (Y.move rfl rfl) ?_
  refine TL.val rfl rfl rfl (Y.bin rfl rfl rfl (br_geN (n := 1))) ?_
  refine TL.is true (by (have := UInt32.le_iff_toNat_le.1 hlf.1; simpa using this)) ?_
  refine TL.val rfl rfl rfl (Y.move rfl rfl) ?_
  refine TL.valG rfl rfl rfl (Y.move rfl rfl) ?_
  refine TL.valG rfl rfl rfl (Y.move rfl rfl) ?_
  refine TL.valG rfl rfl rfl (Y.nilCheck rfl rfl) ?_
  refine TL.valG rfl rfl rfl (by first | exact Y.fieldAddrJ rfl fo68_10 rfl nqq | exact Y.fieldAddr rfl fo68_10 rfl nqq) ?_
  refine TL.valG rfl rfl rfl (Y.load rfl sc3 rfl celN) ?_
  refine TL.as (vN S.sent) (by rfl) ?_
  refine TL.valG rfl rfl rfl (Y.conv rfl Try.underlying3 Try.underlying22 rfl (cv_N_32)) ?_
  refine TL.as (v32 (UInt32.ofNat S.sent)) (by rfl) ?_
  refine TL.valG rfl rfl rfl (Y.bin rfl rfl rfl (br_leN)) ?_
  refine TL.is true (by (have := UInt32.le_iff_toNat_le.1 hlf.2; simpa using this)) ?_
  refine TL.val rfl rfl rfl (Y.pick_t rfl rfl rfl) ?_
  refine TL.val rfl rfl rfl (Y.assign rfl rfl) ?_
  refine TL.nil ?_
  refine TQ.next ?_
  refine TC.seq ?_
  refine TC.seq ?_
  refine TC.region ?_
  refine TL.val rfl rfl rfl (Y.move rfl rfl) ?_
  refine TL.nil ?_
  refine TQ.next ?_
  refine TC.cond_t rfl ?_
  refine TC.seq ?_
  refine TC.region ?_
  refine TL.val rfl rfl rfl (Y.move rfl rfl) ?_
  refine TL.val rfl rfl rfl (Y.move rfl rfl) ?_
  refine TL.val rfl rfl rfl (Y.nilCheck rfl rfl) ?_
  refine TL.val rfl rfl rfl (by first | exact Y.fieldAddrJ rfl fo68_9 rfl nqq | exact Y.fieldAddr rfl fo68_9 rfl nqq) ?_
  refine TL.val rfl rfl rfl (Y.load rfl sc64 rfl celD) ?_
  refine TL.as (.slice p.qa S.queue.length p.qc) (by rfl) ?_
  refine TL.val rfl rfl rfl (Y.move rfl rfl) ?_
  refine TL.val rfl rfl rfl (Y.sliceLoK (sz := 4) (k := n.toNat) rfl Try.underlying64 (by kernel_rfl) rfl rfl (by omega)) ?_
  refine TL.to (Ent.nilOwn 82 4) ?_
  refine TL.eff rfl rfl rfl (X.appendS rfl el64 rfl pul rfl (Src.cut Reads.owns Try.underlying64 inn (by omega) (by omega)) (by simp only [maxLen]; omega) (by omega)) ?_
  rintro _ _ ⟨a35, c35, rfl, rfl⟩
  rw [tl_items, show 0 + (S.queue.length - n.toNat) = (S.queue.drop n.toNat).length by simp]
  refine TL.to (Ent.rdssDrop (hs := (S.queue.drop n.toNat).flatMap Dat.g) pul (fun q hq => by obtain ⟨z, hz, hq⟩ := List.mem_flatMap.1 hq; exact List.mem_flatMap.2 ⟨z, List.mem_of_mem_drop hz, hq⟩)) ?_
  refine TL.val rfl rfl rfl (Y.nilCheck rfl rfl) ?_
  refine TL.val rfl rfl rfl (by first | exact Y.fieldAddrJ rfl fo68_9 rfl nqq | exact Y.fieldAddr rfl fo68_9 rfl nqq) ?_
  refine TL.eff0 rfl rfl (X.store (cs' := asC { p with qa := a35, qc := c35 } { S with queue := S.queue.drop n.toNat }) rfl (by kernel_rfl) rfl rfl rfl pul (by show 9 < 17; decide) rfl) ?_
  rintro _ _ rfl
  refine TL.nil ?_
  refine TQ.next ?_
  refine TC.seq ?_
  refine TC.region ?_
  refine TL.val rfl rfl rfl (Y.move rfl rfl) ?_
  refine TL.val rfl rfl rfl (Y.nilCheck rfl rfl) ?_
  refine TL.val rfl rfl rfl (by first | exact Y.fieldAddrJ rfl fo68_8 rfl nqq | exact Y.fieldAddr rfl fo68_8 rfl nqq) ?_
  refine TL.val rfl rfl rfl (Y.load rfl sc22 rfl cel32) ?_
  refine TL.as (v32 S.base) (by rfl) ?_
  refine TL.val rfl rfl rfl (Y.move rfl rfl) ?_
  refine TL.val rfl rfl rfl (Y.bin rfl rfl rfl (br_add32)) ?_
  refine TL.val rfl rfl rfl (Y.nilCheck rfl rfl) ?_
  refine TL.val rfl rfl rfl (by first | exact Y.fieldAddrJ rfl fo68_8 rfl nqq | exact Y.fieldAddr rfl fo68_8 rfl nqq) ?_
  refine TL.eff0 rfl rfl (X.store (cs' := asC { p with qa := a35, qc := c35 } { S with queue := S.queue.drop n.toNat, base := S.base + n }) rfl (by kernel_rfl) rfl rfl rfl pul (by show 8 < 17; decide) rfl) ?_
  rintro _ _ rfl
  refine TL.nil ?_
  refine TQ.next ?_
  refine TC.region ?_
  refine TL.val rfl rfl rfl (Y.move rfl rfl) ?_
  refine TL.val rfl rfl rfl (Y.nilCheck rfl rfl) ?_
  refine TL.val rfl rfl rfl (by first | exact Y.fieldAddrJ rfl fo68_10 rfl nqq | exact Y.fieldAddr rfl fo68_10 rfl nqq) ?_
  refine TL.val rfl rfl rfl (Y.load rfl sc3 rfl celN) ?_
  refine TL.as (vN S.sent) (by rfl) ?_
  refine TL.val rfl rfl rfl (Y.move rfl rfl) ?_
  refine TL.val rfl rfl rfl (Y.conv rfl Try.underlying22 Try.underlying3 rfl (cv_32_N)) ?_
  refine TL.as (vN n.toNat) (by rfl) ?_
  refine TL.val rfl rfl rfl (Y.bin rfl rfl rfl (br_subN (by omega) (by omega))) ?_
  refine TL.as (vN (S.sent - n.toNat)) (by rfl) ?_
  refine TL.val rfl rfl rfl (Y.nilCheck rfl rfl) ?_
  refine TL.val rfl rfl rfl (by first | exact Y.fieldAddrJ rfl fo68_10 rfl nqq | exact Y.fieldAddr rfl fo68_10 rfl nqq) ?_
  refine TL.eff0 rfl rfl (X.store (cs' := asC { p with qa := a35, qc := c35 } (S.cutQ n)) rfl (by kernel_rfl) rfl rfl rfl pul (by show 10 < 17; decide) rfl) ?_
  rintro _ _ rfl
  refine TL.nil ?_
  obtain ⟨S1, hS1⟩ : ∃ S1, S1 = S.cutQ n := ⟨_, rfl⟩
  have hq1 : S.queue.drop n.toNat = S1.queue := by rw [hS1]; rfl
  have hs1 : S1.sent ≤ S1.queue.length := by rw [← hq1, hS1, List.length_drop]; show S.sent - n.toNat ≤ _; omega
  have h161 : S1.sent ≤ 16 := by rw [hS1]; show S.sent - n.toNat ≤ _; omega
  have hsn1 : (UInt32.ofNat S1.sent).toNat = S1.sent := UInt32.toNat_ofNat_of_lt' (by show _ < 4294967296; omega)
  have hsh1 : Short S1 := ⟨fun x hx => hsh.queue x (List.mem_of_mem_drop (by rw [hq1]; exact hx))⟩
  rw [← hS1, hq1]
  refine TQ.next ?_
  refine TC.seq ?_
  refine TC.block ?_
  refine TC.loopF (ι := List UInt8 × List Itm) [] (fun i => i.1.length % 4 = 0 ∧ i.2.map (·.1) = S1.queue.map (·.1) ∧ (words i.1).foldl AS.mark { S1 with queue := i.2 } = (words (l.drop 4)).foldl AS.mark S1) (fun i => []) (fun i => [rd.R rb i.1 false, SA.owns 82 4 (.slice a35 S1.queue.length c35) S1.queue.length (Dat.cs i.2)]) (fun i => i.1.length) ((l.drop 4, S1.queue)) (⟨by show (l.drop 4).length % 4 = 0; rw [List.length_drop]; omega, rfl, rfl⟩) trivial (Pulls.cons pul (Pulls.cons pul Pulls.nil)) ?_
  rintro ⟨r, q⟩ ⟨hr, hq, hf⟩ F' L' rfl hL'
  simp only [List.cons_append, List.nil_append] at hL'
  subst hL'
  simp only at hr hq hf ⊢
  have hql : q.length = S1.queue.length := by simpa using congrArg List.length hq
  refine TC.seq ?_
  refine TC.seq ?_
  refine TC.region ?_
  refine TL.val rfl rfl rfl (Y.move rfl rfl) ?_
  refine TL.eff rfl rfl rfl (X.call rfl Try.func30 (by kernel_rfl) rfl rfl (Fn.preE (by repeat first | (with_reducible apply Ent.refl) | (apply Ent.cons; case h => first | (with_reducible (repeat first | apply Pull.here | apply Pull.there); done) | (repeat first | apply Pull.here | apply Pull.there))) (rd.Left_fn _ _ _ _))) ?_
  rintro _ _ ⟨rfl, rfl⟩
  refine TL.val rfl rfl rfl (Y.bin rfl rfl rfl (br_gtN (n := 0))) ?_
  refine TL.nil ?_
  refine TQ.next ?_
  refine TC.cond rfl (fun c1 => ?_) (fun c1 => ?_)
  · try simp only [decide_eq_true_eq, decide_eq_false_iff_not, Bool.not_eq_true', Bool.not_eq_false', Bool.and_eq_true, Bool.or_eq_true, Nat.not_lt, Nat.not_le, beq_iff_eq, bne_iff_ne] at c1
    refine TC.skip ?_
    refine TQ.next ?_
    refine TC.block ?_
    refine TC.seq ?_
    have hr4 : 4 ≤ r.length := by omega
    obtain ⟨k, hk⟩ : ∃ k, k = num (r.take 4) - S1.base := ⟨_, rfl⟩
    refine TC.draws 8 [SA.blk b (asC ({ p with qa := a35, qc := c35 }) S1) 68, SA.owns 82 4 (.slice a35 S1.queue.length c35) S1.queue.length (Dat.cs q)] (by kernel_rfl) (by kernel_rfl) (by repeat first | exact holds_nil | refine holds_cons inn ?_) ?_
    refine TA.take 0 rfl rfl rfl rfl (by kernel_rfl) (by kernel_rfl) (by kernel_rfl) rfl (by kernel_rfl) (by kernel_rfl) (fun _ _ _ h => h) (Y.move rfl rfl) ?_
    refine TA.take 2 rfl rfl rfl rfl (by kernel_rfl) (by kernel_rfl) (by kernel_rfl) rfl (by kernel_rfl) (by kernel_rfl) (fun _ _ _ h => h) (Y.move rfl rfl) ?_
    refine TA.take 3 rfl rfl rfl rfl (by kernel_rfl) (by kernel_rfl) (by kernel_rfl) rfl (by kernel_rfl) (by kernel_rfl) (fun _ _ _ h => h) (Y.nilCheck rfl rfl) ?_
    refine TA.take 4 rfl rfl rfl rfl (by kernel_rfl) (by kernel_rfl) (by kernel_rfl) rfl (by kernel_rfl) (by kernel_rfl) (fun _ _ _ h => h) (by first | exact Y.fieldAddrJ rfl fo68_8 rfl nqq | exact Y.fieldAddr rfl fo68_8 rfl nqq) ?_
    refine TA.take 5 rfl rfl rfl rfl (by kernel_rfl) (by kernel_rfl) (by kernel_rfl) rfl (by kernel_rfl) (by kernel_rfl) (fun _ _ _ h => h) (Y.load rfl sc22 rfl cel32) ?_
    refine TA.as (v32 S1.base) (by rfl) ?_
    refine TA.one 1 (by kernel_rfl) rfl rfl rfl rfl (X.call rfl Try.func27 (by kernel_rfl) rfl rfl (Fn.preE (by repeat first | (with_reducible apply Ent.refl) | (apply Ent.cons; case h => first | (with_reducible (repeat first | apply Pull.here | apply Pull.there); done) | (repeat first | apply Pull.here | apply Pull.there))) (u32_ok rb r hr4 _))) ?_
    rintro _ _ ⟨rfl, rfl⟩
    refine ⟨(Or.inr (by repeat first | exact holds_nil | refine holds_cons inn ?_)), ?_⟩
    refine TA.take 6 rfl rfl rfl rfl (by kernel_rfl) (by kernel_rfl) (by kernel_rfl) rfl (by kernel_rfl) (by kernel_rfl) (fun _ _ _ h => h) (Y.bin rfl rfl rfl (br_sub32)) ?_
    refine TA.as (v32 k) (by (rw [hk])) ?_
    refine TA.take 7 rfl rfl rfl rfl (by kernel_rfl) (by kernel_rfl) (by kernel_rfl) rfl (by kernel_rfl) (by kernel_rfl) (fun _ _ _ h => h) (Y.assign rfl rfl) ?_
    refine TA.done (by kernel_rfl) ?_
    refine TQ.next ?_
    refine TC.seq ?_
    refine TC.region ?_
    refine TL.val rfl rfl rfl (Y.move rfl rfl) ?_
    refine TL.val rfl rfl rfl (Y.move rfl rfl) ?_
    refine TL.val rfl rfl rfl (Y.nilCheck rfl rfl) ?_
    refine TL.val rfl rfl rfl (by first | exact Y.fieldAddrJ rfl fo68_10 rfl nqq | exact Y.fieldAddr rfl fo68_10 rfl nqq) ?_
    refine TL.val rfl rfl rfl (Y.load rfl sc3 rfl celN) ?_
    refine TL.as (vN S1.sent) (by rfl) ?_
    refine TL.val rfl rfl rfl (Y.conv rfl Try.underlying3 Try.underlying22 rfl (cv_N_32)) ?_
    refine TL.as (v32 (UInt32.ofNat S1.sent)) (by rfl) ?_
    refine TL.val rfl rfl rfl (Y.bin rfl rfl rfl (br_ltN)) ?_
    refine TL.nil ?_
    refine TQ.next ?_
    refine TC.cond rfl (fun c2 => ?_) (fun c2 => ?_)
    · try simp only [decide_eq_true_eq, decide_eq_false_iff_not, Bool.not_eq_true', Bool.not_eq_false', Bool.and_eq_true, Bool.or_eq_true, Nat.not_lt, Nat.not_le, beq_iff_eq, bne_iff_ne] at c2
      have hks : k.toNat < S1.sent := by rw [hsn1] at c2; exact c2
      have hmq : markQ S1.base S1.sent q (num (r.take 4)) = q.modify k.toNat fun x => (x.1, true) := by unfold markQ; rw [← hk, if_pos (UInt32.lt_iff_toNat_lt.2 (by rw [hsn1]; exact hks))]
      refine TC.know (owns_some (a := a35) (n := S1.queue.length) inn (by omega)) ?_
      rintro ⟨g, off, hqa⟩
      rw [hqa]
      refine TC.region ?_
      refine TL.val rfl rfl rfl (Y.move rfl rfl) ?_
      refine TL.val rfl rfl rfl (Y.nilCheck rfl rfl) ?_
      refine TL.val rfl rfl rfl (by first | exact Y.fieldAddrJ rfl fo68_9 rfl nqq | exact Y.fieldAddr rfl fo68_9 rfl nqq) ?_
      refine TL.val rfl rfl rfl (Y.load rfl sc64 rfl celD) ?_
      refine TL.as (.slice (some ⟨g, off, none⟩) S1.queue.length c35) (by (first | rfl | (rw [← hqa]; rfl))) ?_
      refine TL.val rfl rfl rfl (Y.move rfl rfl) ?_
      refine TL.val rfl rfl rfl (by first | exact Y.indexSlB rfl sl64 rfl rfl (by omega) nqq | exact Y.indexSl rfl sl64 rfl rfl (by omega) nqq) ?_
      refine TL.val rfl rfl rfl (by first | exact Y.fieldAddrJ rfl fo82_1 rfl nqq | exact Y.fieldAddr rfl fo82_1 rfl nqq) ?_
      refine TL.eff0 rfl rfl (X.storeOwn (off := off) (j := k.toNat * 4 + 3) (cs' := Dat.cs (q.modify k.toNat fun x => (x.1, true))) rfl (by kernel_rfl) rfl (by omega) rfl rfl pul (by omega) (cs_mark (by omega))) ?_
      rintro _ _ rfl
      refine TL.nil ?_
      rw [← hqa, ← hmq]
      refine TQ.block_normal ?_
      refine TQ.loopF ((r.drop 4, markQ S1.base S1.sent q (num (r.take 4)))) (⟨by show (r.drop 4).length % 4 = 0; rw [List.length_drop]; omega, by show (markQ _ _ _ _).map _ = _; rw [markQ_map, hq], by show (words (r.drop 4)).foldl AS.mark _ = _; rw [← hf, words_s hr4, List.foldl_cons, mark_eq]⟩) (by show (r.drop 4).length < r.length; rw [List.length_drop]; omega) trivial (by (repeat first | apply Grow.refl | apply Grow.step | apply Grow.app)) ?_ ?_ ?_
      · kernel_rfl
      · rfl
      · simp only [List.cons_append, List.nil_append]
        exact ett
    · try simp only [decide_eq_true_eq, decide_eq_false_iff_not, Bool.not_eq_true', Bool.not_eq_false', Bool.and_eq_true, Bool.or_eq_true, Nat.not_lt, Nat.not_le, beq_iff_eq, bne_iff_ne] at c2
      have hmq : markQ S1.base S1.sent q (num (r.take 4)) = q := by unfold markQ; rw [← hk, if_neg (fun h => by have := UInt32.lt_iff_toNat_lt.1 h; omega)]
      rw [show Dat.cs q = Dat.cs (markQ S1.base S1.sent q (num (r.take 4))) by rw [hmq]]
      refine TC.skip ?_
      refine TQ.block_normal ?_
      refine TQ.loopF ((r.drop 4, markQ S1.base S1.sent q (num (r.take 4)))) (⟨by show (r.drop 4).length % 4 = 0; rw [List.length_drop]; omega, by show (markQ _ _ _ _).map _ = _; rw [markQ_map, hq], by show (words (r.drop 4)).foldl AS.mark _ = _; rw [← hf, words_s hr4, List.foldl_cons, mark_eq]⟩) (by show (r.drop 4).length < r.length; rw [List.length_drop]; omega) trivial (by (repeat first | apply Grow.refl | apply Grow.step | apply Grow.app)) ?_ ?_ ?_
      · kernel_rfl
      · rfl
      · simp only [List.cons_append, List.nil_append]
        exact ett
  · try simp only [decide_eq_true_eq, decide_eq_false_iff_not, Bool.not_eq_true', Bool.not_eq_false', Bool.and_eq_true, Bool.or_eq_true, Nat.not_lt, Nat.not_le, beq_iff_eq, bne_iff_ne] at c1
    obtain rfl : r = [] := List.length_eq_zero_iff.1 (by omega)
    obtain ⟨T, hT⟩ : ∃ T : AS Msg, T = { S1 with queue := q } := ⟨_, rfl⟩
    have hTa : asC ({ p with qa := a35, qc := c35 }) S1 = asC ({ p with qa := a35, qc := c35 }) T := by rw [hT]; simp only [asC, hql]
    have hTq : q = T.queue := by rw [hT]
    have hTg : S1.queue.flatMap Dat.g = T.queue.flatMap Dat.g := by rw [← hTq, items_g, items_g, hq]
    have hTs : Short T := ⟨fun x hx => by
        rw [← hTq] at hx
        obtain ⟨y, hy, hyx⟩ := List.mem_map.1 (hq ▸ List.mem_map_of_mem hx : x.1 ∈ S1.queue.map (·.1))
        rw [← hyx]; exact hsh1.queue y hy⟩
    have hTl : T.sent ≤ T.queue.length := by rw [← hTq, hql, hT]; exact hs1
    have hT16 : T.sent ≤ 16 := by rw [hT]; exact h161
    have hfT : (words (l.drop 4)).foldl AS.mark S1 = T := by rw [← hf, hT]; rfl
    rw [hTa, hTg, ← hql, hTq]
    refine TC.exit ?_
    refine TQ.then_exit ?_
    refine TQ.then_exit ?_
    refine TQ.block_exit ?_
    refine TQ.next ?_
    refine TC.seq ?_
    refine TC.seq ?_
    refine TC.region ?_
    refine TL.val rfl rfl rfl (Y.move rfl rfl) ?_
    refine TL.nil ?_
    refine TQ.next ?_
    refine TC.cond_t rfl ?_
    refine TC.seq ?_
    refine TC.region ?_
    refine TL.val rfl rfl rfl (Y.move rfl rfl) ?_
    refine TL.eff rfl rfl rfl (X.call rfl Try.func46 (by kernel_rfl) rfl rfl (Fn.preE (by repeat first | (with_reducible apply Ent.refl) | (apply Ent.cons; case h => first | (with_reducible (repeat first | apply Pull.here | apply Pull.there); done) | (repeat first | apply Pull.here | apply Pull.there))) (start_fn b { p with qa := a35, qc := c35 } T _))) ?_
    rintro _ _ ⟨rfl, rfl⟩
    refine TL.nil ?_
    refine TQ.next ?_
    refine TC.region ?_
    refine TL.val rfl rfl rfl (Y.move rfl rfl) ?_
    refine TL.val rfl rfl rfl (Y.move rfl rfl) ?_
    refine TL.val rfl rfl rfl (Y.nilCheck rfl rfl) ?_
    refine TL.val rfl rfl rfl (by first | exact Y.fieldAddrJ rfl fo68_10 rfl nqq | exact Y.fieldAddr rfl fo68_10 rfl nqq) ?_
    refine TL.val rfl rfl rfl (Y.load rfl sc3 rfl celN) ?_
    refine TL.as (vN T.sent) (by rfl) ?_
    refine TL.val rfl rfl rfl (Y.bin rfl rfl rfl (br_gtN (n := 0))) ?_
    refine TL.val rfl rfl rfl (Y.nilCheck rfl rfl) ?_
    refine TL.val rfl rfl rfl (by first | exact Y.fieldAddrJ rfl fo68_12 rfl nqq | exact Y.fieldAddr rfl fo68_12 rfl nqq) ?_
    refine TL.val rfl rfl rfl (by first | exact Y.fieldAddrJ rfl fo66_0 rfl nqq | exact Y.fieldAddr rfl fo66_0 rfl nqq) ?_
    refine TL.eff0 rfl rfl (X.store (cs' := asC { p with qa := a35, qc := c35 } { T.starts with tset := decide (0 < T.sent) }) rfl (by kernel_rfl) rfl rfl rfl pul (by show 12 < 17; decide) rfl) ?_
    rintro _ _ rfl
    refine TL.nil ?_
    refine TQ.next ?_
    refine TC.seq ?_
    obtain ⟨S2, hS2⟩ : ∃ S2 : AS Msg, S2 = { T.starts with tset := decide (0 < T.sent) } := ⟨_, rfl⟩
    have hq2 : T.queue = S2.queue := by rw [hS2]; rfl
    have hack : S.ack1 (num (l.take 4)) (words (l.drop 4)) = S2 := by rw [AS.ack1, if_pos hlf0, AS.drop1, if_pos hlf0, ← hn, ← hS1, hfT, hS2]
    rw [← hS2, hq2, hack]
    refine TC.region ?_
    refine TL.val rfl rfl rfl (Y.move rfl rfl) ?_
    refine TL.eff rfl rfl rfl (X.call rfl Try.func42 (by kernel_rfl) rfl rfl (Fn.preE (by repeat first | (with_reducible apply Ent.refl) | (apply Ent.cons; case h => first | (with_reducible (repeat first | apply Pull.here | apply Pull.there); done) | (repeat first | apply Pull.here | apply Pull.there))) (more_fn b { p with qa := a35, qc := c35 } S2 ⟨fun x hx => hTs.queue x (by rw [hq2]; exact hx)⟩ (by rw [← hq2, hS2]; exact hTl) (by rw [hS2]; exact hT16) _))) ?_
    rintro _ _ ⟨o, rfl, ho, rfl⟩
    refine TL.val rfl rfl rfl (Y.assign rfl rfl) ?_
    refine TL.nil ?_
    refine TQ.next ?_
    refine TC.ret ?_
    refine TQ.retE (res1 rfl rfl) (⟨o, { p with qa := a35, qc := c35 }, rfl, rfl, rfl, rfl, rfl, rfl, ho, rfl⟩) ?_
    exact ett

omit hq32 in
set_option maxHeartbeats 4000000 in
theorem acked_not (hlf : S.left (num (l.take 4)) = false) (L : List SA) : Fn Try.prog 38 [pt b 0, pt rb 0] (rd.R rb l false :: aB b p S :: aQ p S :: aD S :: L)
    (fun v L' => ∃ (o : Sl Bs) (p' : AP), p'.sa = p.sa ∧ p'.sc = p.sc ∧ p'.mb = p.mb ∧ p'.ha = p.ha ∧ p'.hc = p.hc ∧ v = o.v ∧ o.l.map (·.l) = (abs (S.ack1 (num (l.take 4)) (words (l.drop 4)))).moreOut ∧
      L' = SA.dat o :: aB b p' (S.ack1 (num (l.take 4)) (words (l.drop 4))).more :: aQ p' (S.ack1 (num (l.take 4)) (words (l.drop 4))) :: aD (S.ack1 (num (l.take 4)) (words (l.drop 4))) :: L) := by
  obtain ⟨n, hn⟩ : ∃ n, n = num (l.take 4) - S.base + 1 := ⟨_, rfl⟩
  have hsn : (UInt32.ofNat S.sent).toNat = S.sent := UInt32.toNat_ofNat_of_lt' (by show _ < 4294967296; omega)
  have hlf0 := hlf
  rw [AS.left, ← hn, decide_eq_false_iff_not] at hlf
  refine Fn.of (N := 93) Try.func38 rfl rfl ?_
  intro Xh
  refine TC.seq ?_
  refine TC.region ?_
  refine TL.val rfl rfl rfl (Y.assign rfl rfl) ?_
  refine TL.nil ?_
  refine TQ.next ?_
  refine TC.seq ?_
  refine TC.draws 9 [aB b p S, aQ p S, aD S] (by kernel_rfl) (by kernel_rfl) (by repeat first | exact holds_nil | refine holds_cons inn ?_) ?_
  refine TA.take 0 rfl rfl rfl rfl (by kernel_rfl) (by kernel_rfl) (by kernel_rfl) rfl (by kernel_rfl) (by kernel_rfl) (fun _ _ _ h => h) (Y.move rfl rfl) ?_
  refine TA.take 2 rfl rfl rfl rfl (by kernel_rfl) (by kernel_rfl) (by kernel_rfl) rfl (by kernel_rfl) (by kernel_rfl) (fun _ _ _ h => h) (Y.move rfl rfl) ?_
  refine TA.take 3 rfl rfl rfl rfl (by kernel_rfl) (by kernel_rfl) (by kernel_rfl) rfl (by kernel_rfl) (by kernel_rfl) (fun _ _ _ h => h) (Y.nilCheck rfl rfl) ?_
  refine TA.take 4 rfl rfl rfl rfl (by kernel_rfl) (by kernel_rfl) (by kernel_rfl) rfl (by kernel_rfl) (by kernel_rfl) (fun _ _ _ h => h) (by first | exact Y.fieldAddrJ rfl fo68_8 rfl nqq | exact Y.fieldAddr rfl fo68_8 rfl nqq) ?_
  refine TA.take 5 rfl rfl rfl rfl (by kernel_rfl) (by kernel_rfl) (by kernel_rfl) rfl (by kernel_rfl) (by kernel_rfl) (fun _ _ _ h => h) (Y.load rfl sc22 rfl cel32) ?_
  refine TA.as (v32 S.base) (by rfl) ?_
  refine TA.one 1 (by kernel_rfl) rfl rfl rfl rfl (X.call rfl Try.func27 (by kernel_rfl) rfl rfl (Fn.preE (by repeat first | (with_reducible apply Ent.refl) | (apply Ent.cons; case h => first | (with_reducible (repeat first | apply Pull.here | apply Pull.there); done) | (repeat first | apply Pull.here | apply Pull.there))) (u32_ok rb l hl4 _))) ?_
  rintro _ _ ⟨rfl, rfl⟩
  refine ⟨(Or.inr (by repeat first | exact holds_nil | refine holds_cons inn ?_)), ?_⟩
  refine TA.take 6 rfl rfl rfl rfl (by kernel_rfl) (by kernel_rfl) (by kernel_rfl) rfl (by kernel_rfl) (by kernel_rfl) (fun _ _ _ h => h) (Y.bin rfl rfl rfl (br_sub32)) ?_
  refine TA.take 7 rfl rfl rfl rfl (by kernel_rfl) (by kernel_rfl) (by kernel_rfl) rfl (by kernel_rfl) (by kernel_rfl) (fun _ _ _ h => h) (Y.bin rfl rfl rfl (br_add32 (y := 1))) ?_
  refine TA.as (v32 n) (by (rw [hn])) ?_
  refine TA.take 8 rfl rfl rfl rfl (by kernel_rfl) (by kernel_rfl) (by kernel_rfl) rfl (by kernel_rfl) (by kernel_rfl) (fun _ _ _ h => h) (Y.assign rfl rfl) ?_
  refine TA.done (by kernel_rfl) ?_
  refine TQ.next ?_
  refine TC.seq ?_
  refine TC.region ?_
  refine TL.val rfl rfl rfl (Y.move rfl rfl) ?_
  refine TL.val rfl rfl rfl (Y.bin rfl rfl rfl (br_geN (n := 1))) ?_
  refine TL.val rfl rfl rfl (Y.move rfl rfl) ?_
  refine TL.case (fun g2_2 => ?_) (fun g2_2 => ?_)
  · try simp only [decide_eq_true_eq, decide_eq_false_iff_not, Bool.not_eq_true', Bool.not_eq_false', Nat.not_lt, Nat.not_le, beq_iff_eq, bne_iff_ne] at g2_2
    refine TL.valG rfl rfl rfl (Y.move rfl rfl) ?_
    refine TL.valG rfl rfl rfl (Y.move rfl rfl) ?_
    refine TL.valG rfl rfl rfl (Y.nilCheck rfl rfl) ?_
    refine TL.valG rfl rfl rfl (by first | exact Y.fieldAddrJ rfl fo68_10 rfl nqq | exact Y.fieldAddr rfl fo68_10 rfl nqq) ?_
    refine TL.valG rfl rfl rfl (Y.load rfl sc3 rfl celN) ?_
    refine TL.as (vN S.sent) (by rfl) ?_
    refine TL.valG rfl rfl rfl (Y.conv rfl Try.underlying3 Try.underlying22 rfl (cv_N_32)) ?_
    refine TL.as (v32 (UInt32.ofNat S.sent)) (by rfl) ?_
    refine TL.valG rfl rfl rfl (Y.bin rfl rfl rfl (br_leN)) ?_
    refine TL.is false (by (rw [decide_eq_false_iff_not]; exact fun h => hlf ⟨UInt32.le_iff_toNat_le.2 (by simpa using g2_2), UInt32.le_iff_toNat_le.2 h⟩)) ?_
    refine TL.val rfl rfl rfl (Y.pick_t rfl rfl rfl) ?_
    refine TL.val rfl rfl rfl (Y.assign rfl rfl) ?_
    refine TL.nil ?_
    refine TQ.next ?_
    refine TC.seq ?_
    refine TC.seq ?_
    refine TC.region ?_
    refine TL.val rfl rfl rfl (Y.move rfl rfl) ?_
    refine TL.nil ?_
    refine TQ.next ?_
    refine TC.cond_f rfl ?_
    refine TC.skip ?_
    refine TQ.next ?_
    refine TC.seq ?_
    refine TC.block ?_
    obtain ⟨S1, hS1⟩ : ∃ S1, S1 = S := ⟨_, rfl⟩
    have hsn1 := hsn
    have hsh1 := hsh
    have hs1 := hs
    have h161 := h16
    rw [← hS1] at hsn1 hsh1 hs1 h161
    rw [show aB b p S = SA.blk b (asC p S1) 68 by rw [hS1], show aQ p S = SA.owns 82 4 (.slice p.qa S1.queue.length p.qc) S1.queue.length (Dat.cs S1.queue) by rw [hS1], show aD S = SA.rdss (S1.queue.flatMap Dat.g) by rw [hS1]]
    refine TC.loopF (ι := List UInt8 × List Itm) [] (fun i => i.1.length % 4 = 0 ∧ i.2.map (·.1) = S1.queue.map (·.1) ∧ (words i.1).foldl AS.mark { S1 with queue := i.2 } = (words (l.drop 4)).foldl AS.mark S1) (fun i => []) (fun i => [rd.R rb i.1 false, SA.owns 82 4 (.slice p.qa S1.queue.length p.qc) S1.queue.length (Dat.cs i.2)]) (fun i => i.1.length) ((l.drop 4, S1.queue)) (⟨by show (l.drop 4).length % 4 = 0; rw [List.length_drop]; omega, rfl, rfl⟩) trivial (Pulls.cons pul (Pulls.cons pul Pulls.nil)) ?_
    rintro ⟨r, q⟩ ⟨hr, hq, hf⟩ F' L' rfl hL'
    simp only [List.cons_append, List.nil_append] at hL'
    subst hL'
    simp only at hr hq hf ⊢
    have hql : q.length = S1.queue.length := by simpa using congrArg List.length hq
    refine TC.seq ?_
    refine TC.seq ?_
    refine TC.region ?_
    refine TL.val rfl rfl rfl (Y.move rfl rfl) ?_
    refine TL.eff rfl rfl rfl (X.call rfl Try.func30 (by kernel_rfl) rfl rfl (Fn.preE (by repeat first | (with_reducible apply Ent.refl) | (apply Ent.cons; case h => first | (with_reducible (repeat first | apply Pull.here | apply Pull.there); done) | (repeat first | apply Pull.here | apply Pull.there))) (rd.Left_fn _ _ _ _))) ?_
    rintro _ _ ⟨rfl, rfl⟩
    refine TL.val rfl rfl rfl (Y.bin rfl rfl rfl (br_gtN (n := 0))) ?_
    refine TL.nil ?_
    refine TQ.next ?_
    refine TC.cond rfl (fun c1 => ?_) (fun c1 => ?_)
    · try simp only [decide_eq_true_eq, decide_eq_false_iff_not, Bool.not_eq_true', Bool.not_eq_false', Bool.and_eq_true, Bool.or_eq_true, Nat.not_lt, Nat.not_le, beq_iff_eq, bne_iff_ne] at c1
      refine TC.skip ?_
      refine TQ.next ?_
      refine TC.block ?_
      refine TC.seq ?_
      have hr4 : 4 ≤ r.length := by omega
      obtain ⟨k, hk⟩ : ∃ k, k = num (r.take 4) - S1.base := ⟨_, rfl⟩
      refine TC.draws 8 [SA.blk b (asC (p) S1) 68, SA.owns 82 4 (.slice p.qa S1.queue.length p.qc) S1.queue.length (Dat.cs q)] (by kernel_rfl) (by kernel_rfl) (by repeat first | exact holds_nil | refine holds_cons inn ?_) ?_
      refine TA.take 0 rfl rfl rfl rfl (by kernel_rfl) (by kernel_rfl) (by kernel_rfl) rfl (by kernel_rfl) (by kernel_rfl) (fun _ _ _ h => h) (Y.move rfl rfl) ?_
      refine TA.take 2 rfl rfl rfl rfl (by kernel_rfl) (by kernel_rfl) (by kernel_rfl) rfl (by kernel_rfl) (by kernel_rfl) (fun _ _ _ h => h) (Y.move rfl rfl) ?_
      refine TA.take 3 rfl rfl rfl rfl (by kernel_rfl) (by kernel_rfl) (by kernel_rfl) rfl (by kernel_rfl) (by kernel_rfl) (fun _ _ _ h => h) (Y.nilCheck rfl rfl) ?_
      refine TA.take 4 rfl rfl rfl rfl (by kernel_rfl) (by kernel_rfl) (by kernel_rfl) rfl (by kernel_rfl) (by kernel_rfl) (fun _ _ _ h => h) (by first | exact Y.fieldAddrJ rfl fo68_8 rfl nqq | exact Y.fieldAddr rfl fo68_8 rfl nqq) ?_
      refine TA.take 5 rfl rfl rfl rfl (by kernel_rfl) (by kernel_rfl) (by kernel_rfl) rfl (by kernel_rfl) (by kernel_rfl) (fun _ _ _ h => h) (Y.load rfl sc22 rfl cel32) ?_
      refine TA.as (v32 S1.base) (by rfl) ?_
      refine TA.one 1 (by kernel_rfl) rfl rfl rfl rfl (X.call rfl Try.func27 (by kernel_rfl) rfl rfl (Fn.preE (by repeat first | (with_reducible apply Ent.refl) | (apply Ent.cons; case h => first | (with_reducible (repeat first | apply Pull.here | apply Pull.there); done) | (repeat first | apply Pull.here | apply Pull.there))) (u32_ok rb r hr4 _))) ?_
      rintro _ _ ⟨rfl, rfl⟩
      refine ⟨(Or.inr (by repeat first | exact holds_nil | refine holds_cons inn ?_)), ?_⟩
      refine TA.take 6 rfl rfl rfl rfl (by kernel_rfl) (by kernel_rfl) (by kernel_rfl) rfl (by kernel_rfl) (by kernel_rfl) (fun _ _ _ h => h) (Y.bin rfl rfl rfl (br_sub32)) ?_
      refine TA.as (v32 k) (by (rw [hk])) ?_
      refine TA.take 7 rfl rfl rfl rfl (by kernel_rfl) (by kernel_rfl) (by kernel_rfl) rfl (by kernel_rfl) (by kernel_rfl) (fun _ _ _ h => h) (Y.assign rfl rfl) ?_
      refine TA.done (by kernel_rfl) ?_
      refine TQ.next ?_
      refine TC.seq ?_
      refine TC.region ?_
      refine TL.val rfl rfl rfl (Y.move rfl rfl) ?_
      refine TL.val rfl rfl rfl (Y.move rfl rfl) ?_
      refine TL.val rfl rfl rfl (Y.nilCheck rfl rfl) ?_
      refine TL.val rfl rfl rfl (by first | exact Y.fieldAddrJ rfl fo68_10 rfl nqq | exact Y.fieldAddr rfl fo68_10 rfl nqq) ?_
      refine TL.val rfl rfl rfl (Y.load rfl sc3 rfl celN) ?_
      refine TL.as (vN S1.sent) (by rfl) ?_
      refine TL.val rfl rfl rfl (Y.conv rfl Try.underlying3 Try.underlying22 rfl (cv_N_32)) ?_
      refine TL.as (v32 (UInt32.ofNat S1.sent)) (by rfl) ?_
      refine TL.val rfl rfl rfl (Y.bin rfl rfl rfl (br_ltN)) ?_
      refine TL.nil ?_
      refine TQ.next ?_
      refine TC.cond rfl (fun c2 => ?_) (fun c2 => ?_)
      · try simp only [decide_eq_true_eq, decide_eq_false_iff_not, Bool.not_eq_true', Bool.not_eq_false', Bool.and_eq_true, Bool.or_eq_true, Nat.not_lt, Nat.not_le, beq_iff_eq, bne_iff_ne] at c2
        have hks : k.toNat < S1.sent := by rw [hsn1] at c2; exact c2
        have hmq : markQ S1.base S1.sent q (num (r.take 4)) = q.modify k.toNat fun x => (x.1, true) := by unfold markQ; rw [← hk, if_pos (UInt32.lt_iff_toNat_lt.2 (by rw [hsn1]; exact hks))]
        refine TC.know (owns_some (a := p.qa) (n := S1.queue.length) inn (by omega)) ?_
        rintro ⟨g, off, hqa⟩
        rw [hqa]
        refine TC.region ?_
        refine TL.val rfl rfl rfl (Y.move rfl rfl) ?_
        refine TL.val rfl rfl rfl (Y.nilCheck rfl rfl) ?_
        refine TL.val rfl rfl rfl (by first | exact Y.fieldAddrJ rfl fo68_9 rfl nqq | exact Y.fieldAddr rfl fo68_9 rfl nqq) ?_
        refine TL.val rfl rfl rfl (Y.load rfl sc64 rfl celD) ?_
        refine TL.as (.slice (some ⟨g, off, none⟩) S1.queue.length p.qc) (by (first | rfl | (rw [← hqa]; rfl))) ?_
        refine TL.val rfl rfl rfl (Y.move rfl rfl) ?_
        refine TL.val rfl rfl rfl (by first | exact Y.indexSlB rfl sl64 rfl rfl (by omega) nqq | exact Y.indexSl rfl sl64 rfl rfl (by omega) nqq) ?_
        refine TL.val rfl rfl rfl (by first | exact Y.fieldAddrJ rfl fo82_1 rfl nqq | exact Y.fieldAddr rfl fo82_1 rfl nqq) ?_
        refine TL.eff0 rfl rfl (X.storeOwn (off := off) (j := k.toNat * 4 + 3) (cs' := Dat.cs (q.modify k.toNat fun x => (x.1, true))) rfl (by kernel_rfl) rfl (by omega) rfl rfl pul (by omega) (cs_mark (by omega))) ?_
        rintro _ _ rfl
        refine TL.nil ?_
        rw [← hqa, ← hmq]
        refine TQ.block_normal ?_
        refine TQ.loopF ((r.drop 4, markQ S1.base S1.sent q (num (r.take 4)))) (⟨by show (r.drop 4).length % 4 = 0; rw [List.length_drop]; omega, by show (markQ _ _ _ _).map _ = _; rw [markQ_map, hq], by show (words (r.drop 4)).foldl AS.mark _ = _; rw [← hf, words_s hr4, List.foldl_cons, mark_eq]⟩) (by show (r.drop 4).length < r.length; rw [List.length_drop]; omega) trivial (by (repeat first | apply Grow.refl | apply Grow.step | apply Grow.app)) ?_ ?_ ?_
        · kernel_rfl
        · rfl
        · simp only [List.cons_append, List.nil_append]
          exact ett
      · try simp only [decide_eq_true_eq, decide_eq_false_iff_not, Bool.not_eq_true', Bool.not_eq_false', Bool.and_eq_true, Bool.or_eq_true, Nat.not_lt, Nat.not_le, beq_iff_eq, bne_iff_ne] at c2
        have hmq : markQ S1.base S1.sent q (num (r.take 4)) = q := by unfold markQ; rw [← hk, if_neg (fun h => by have := UInt32.lt_iff_toNat_lt.1 h; omega)]
        rw [show Dat.cs q = Dat.cs (markQ S1.base S1.sent q (num (r.take 4))) by rw [hmq]]
        refine TC.skip ?_
        refine TQ.block_normal ?_
        refine TQ.loopF ((r.drop 4, markQ S1.base S1.sent q (num (r.take 4)))) (⟨by show (r.drop 4).length % 4 = 0; rw [List.length_drop]; omega, by show (markQ _ _ _ _).map _ = _; rw [markQ_map, hq], by show (words (r.drop 4)).foldl AS.mark _ = _; rw [← hf, words_s hr4, List.foldl_cons, mark_eq]⟩) (by show (r.drop 4).length < r.length; rw [List.length_drop]; omega) trivial (by (repeat first | apply Grow.refl | apply Grow.step | apply Grow.app)) ?_ ?_ ?_
        · kernel_rfl
        · rfl
        · simp only [List.cons_append, List.nil_append]
          exact ett
    · try simp only [decide_eq_true_eq, decide_eq_false_iff_not, Bool.not_eq_true', Bool.not_eq_false', Bool.and_eq_true, Bool.or_eq_true, Nat.not_lt, Nat.not_le, beq_iff_eq, bne_iff_ne] at c1
      obtain rfl : r = [] := List.length_eq_zero_iff.1 (by omega)
      obtain ⟨T, hT⟩ : ∃ T : AS Msg, T = { S1 with queue := q } := ⟨_, rfl⟩
      have hTa : asC (p) S1 = asC (p) T := by rw [hT]; simp only [asC, hql]
      have hTq : q = T.queue := by rw [hT]
      have hTg : S1.queue.flatMap Dat.g = T.queue.flatMap Dat.g := by rw [← hTq, items_g, items_g, hq]
      have hTs : Short T := ⟨fun x hx => by
          rw [← hTq] at hx
          obtain ⟨y, hy, hyx⟩ := List.mem_map.1 (hq ▸ List.mem_map_of_mem hx : x.1 ∈ S1.queue.map (·.1))
          rw [← hyx]; exact hsh1.queue y hy⟩
      have hTl : T.sent ≤ T.queue.length := by rw [← hTq, hql, hT]; exact hs1
      have hT16 : T.sent ≤ 16 := by rw [hT]; exact h161
      have hfT : (words (l.drop 4)).foldl AS.mark S1 = T := by rw [← hf, hT]; rfl
      rw [hTa, hTg, ← hql, hTq]
      have hack : S.ack1 (num (l.take 4)) (words (l.drop 4)) = T := by rw [AS.ack1, if_neg (by rw [hlf0]; decide), AS.drop1, if_neg (by rw [hlf0]; decide), ← hS1, hfT]
      rw [hack]
      refine TC.exit ?_
      refine TQ.then_exit ?_
      refine TQ.then_exit ?_
      refine TQ.block_exit ?_
      refine TQ.next ?_
      refine TC.seq ?_
      refine TC.seq ?_
      refine TC.region ?_
      refine TL.val rfl rfl rfl (Y.move rfl rfl) ?_
      refine TL.nil ?_
      refine TQ.next ?_
      refine TC.cond_f rfl ?_
      refine TC.skip ?_
      refine TQ.next ?_
      refine TC.seq ?_
      refine TC.region ?_
      refine TL.val rfl rfl rfl (Y.move rfl rfl) ?_
      refine TL.eff rfl rfl rfl (X.call rfl Try.func42 (by kernel_rfl) rfl rfl (Fn.preE (by repeat first | (with_reducible apply Ent.refl) | (apply Ent.cons; case h => first | (with_reducible (repeat first | apply Pull.here | apply Pull.there); done) | (repeat first | apply Pull.here | apply Pull.there))) (more_fn b p T hTs hTl hT16 _))) ?_
      rintro _ _ ⟨o, rfl, ho, rfl⟩
      refine TL.val rfl rfl rfl (Y.assign rfl rfl) ?_
      refine TL.nil ?_
      refine TQ.next ?_
      refine TC.ret ?_
      refine TQ.retE (res1 rfl rfl) (⟨o, p, rfl, rfl, rfl, rfl, rfl, rfl, ho, rfl⟩) ?_
      exact ett
  · try simp only [decide_eq_true_eq, decide_eq_false_iff_not, Bool.not_eq_true', Bool.not_eq_false', Nat.not_lt, Nat.not_le, beq_iff_eq, bne_iff_ne] at g2_2
    refine TL.not rfl rfl rfl ?_
    refine TL.not rfl rfl rfl ?_
    refine TL.not rfl rfl rfl ?_
    refine TL.not rfl rfl rfl ?_
    refine TL.not rfl rfl rfl ?_
    refine TL.not rfl rfl rfl ?_
    refine TL.not rfl rfl rfl ?_
    refine TL.val rfl rfl rfl (Y.pick_f rfl rfl rfl) ?_
    refine TL.val rfl rfl rfl (Y.assign rfl rfl) ?_
    refine TL.nil ?_
    refine TQ.next ?_
    refine TC.seq ?_
    refine TC.seq ?_
    refine TC.region ?_
    refine TL.val rfl rfl rfl (Y.move rfl rfl) ?_
    refine TL.nil ?_
    refine TQ.next ?_
    refine TC.cond_f rfl ?_
    refine TC.skip ?_
    refine TQ.next ?_
    refine TC.seq ?_
    refine TC.block ?_
    obtain ⟨S1, hS1⟩ : ∃ S1, S1 = S := ⟨_, rfl⟩
    have hsn1 := hsn
    have hsh1 := hsh
    have hs1 := hs
    have h161 := h16
    rw [← hS1] at hsn1 hsh1 hs1 h161
    rw [show aB b p S = SA.blk b (asC p S1) 68 by rw [hS1], show aQ p S = SA.owns 82 4 (.slice p.qa S1.queue.length p.qc) S1.queue.length (Dat.cs S1.queue) by rw [hS1], show aD S = SA.rdss (S1.queue.flatMap Dat.g) by rw [hS1]]
    refine TC.loopF (ι := List UInt8 × List Itm) [] (fun i => i.1.length % 4 = 0 ∧ i.2.map (·.1) = S1.queue.map (·.1) ∧ (words i.1).foldl AS.mark { S1 with queue := i.2 } = (words (l.drop 4)).foldl AS.mark S1) (fun i => []) (fun i => [rd.R rb i.1 false, SA.owns 82 4 (.slice p.qa S1.queue.length p.qc) S1.queue.length (Dat.cs i.2)]) (fun i => i.1.length) ((l.drop 4, S1.queue)) (⟨by show (l.drop 4).length % 4 = 0; rw [List.length_drop]; omega, rfl, rfl⟩) trivial (Pulls.cons pul (Pulls.cons pul Pulls.nil)) ?_
    rintro ⟨r, q⟩ ⟨hr, hq, hf⟩ F' L' rfl hL'
    simp only [List.cons_append, List.nil_append] at hL'
    subst hL'
    simp only at hr hq hf ⊢
    have hql : q.length = S1.queue.length := by simpa using congrArg List.length hq
    refine TC.seq ?_
    refine TC.seq ?_
    refine TC.region ?_
    refine TL.val rfl rfl rfl (Y.move rfl rfl) ?_
    refine TL.eff rfl rfl rfl (X.call rfl Try.func30 (by kernel_rfl) rfl rfl (Fn.preE (by repeat first | (with_reducible apply Ent.refl) | (apply Ent.cons; case h => first | (with_reducible (repeat first | apply Pull.here | apply Pull.there); done) | (repeat first | apply Pull.here | apply Pull.there))) (rd.Left_fn _ _ _ _))) ?_
    rintro _ _ ⟨rfl, rfl⟩
    refine TL.val rfl rfl rfl (Y.bin rfl rfl rfl (br_gtN (n := 0))) ?_
    refine TL.nil ?_
    refine TQ.next ?_
    refine TC.cond rfl (fun c1 => ?_) (fun c1 => ?_)
    · try simp only [decide_eq_true_eq, decide_eq_false_iff_not, Bool.not_eq_true', Bool.not_eq_false', Bool.and_eq_true, Bool.or_eq_true, Nat.not_lt, Nat.not_le, beq_iff_eq, bne_iff_ne] at c1
      refine TC.skip ?_
      refine TQ.next ?_
      refine TC.block ?_
      refine TC.seq ?_
      have hr4 : 4 ≤ r.length := by omega
      obtain ⟨k, hk⟩ : ∃ k, k = num (r.take 4) - S1.base := ⟨_, rfl⟩
      refine TC.draws 8 [SA.blk b (asC (p) S1) 68, SA.owns 82 4 (.slice p.qa S1.queue.length p.qc) S1.queue.length (Dat.cs q)] (by kernel_rfl) (by kernel_rfl) (by repeat first | exact holds_nil | refine holds_cons inn ?_) ?_
      refine TA.take 0 rfl rfl rfl rfl (by kernel_rfl) (by kernel_rfl) (by kernel_rfl) rfl (by kernel_rfl) (by kernel_rfl) (fun _ _ _ h => h) (Y.move rfl rfl) ?_
      refine TA.take 2 rfl rfl rfl rfl (by kernel_rfl) (by kernel_rfl) (by kernel_rfl) rfl (by kernel_rfl) (by kernel_rfl) (fun _ _ _ h => h) (Y.move rfl rfl) ?_
      refine TA.take 3 rfl rfl rfl rfl (by kernel_rfl) (by kernel_rfl) (by kernel_rfl) rfl (by kernel_rfl) (by kernel_rfl) (fun _ _ _ h => h) (Y.nilCheck rfl rfl) ?_
      refine TA.take 4 rfl rfl rfl rfl (by kernel_rfl) (by kernel_rfl) (by kernel_rfl) rfl (by kernel_rfl) (by kernel_rfl) (fun _ _ _ h => h) (by first | exact Y.fieldAddrJ rfl fo68_8 rfl nqq | exact Y.fieldAddr rfl fo68_8 rfl nqq) ?_
      refine TA.take 5 rfl rfl rfl rfl (by kernel_rfl) (by kernel_rfl) (by kernel_rfl) rfl (by kernel_rfl) (by kernel_rfl) (fun _ _ _ h => h) (Y.load rfl sc22 rfl cel32) ?_
      refine TA.as (v32 S1.base) (by rfl) ?_
      refine TA.one 1 (by kernel_rfl) rfl rfl rfl rfl (X.call rfl Try.func27 (by kernel_rfl) rfl rfl (Fn.preE (by repeat first | (with_reducible apply Ent.refl) | (apply Ent.cons; case h => first | (with_reducible (repeat first | apply Pull.here | apply Pull.there); done) | (repeat first | apply Pull.here | apply Pull.there))) (u32_ok rb r hr4 _))) ?_
      rintro _ _ ⟨rfl, rfl⟩
      refine ⟨(Or.inr (by repeat first | exact holds_nil | refine holds_cons inn ?_)), ?_⟩
      refine TA.take 6 rfl rfl rfl rfl (by kernel_rfl) (by kernel_rfl) (by kernel_rfl) rfl (by kernel_rfl) (by kernel_rfl) (fun _ _ _ h => h) (Y.bin rfl rfl rfl (br_sub32)) ?_
      refine TA.as (v32 k) (by (rw [hk])) ?_
      refine TA.take 7 rfl rfl rfl rfl (by kernel_rfl) (by kernel_rfl) (by kernel_rfl) rfl (by kernel_rfl) (by kernel_rfl) (fun _ _ _ h => h) (Y.assign rfl rfl) ?_
      refine TA.done (by kernel_rfl) ?_
      refine TQ.next ?_
      refine TC.seq ?_
      refine TC.region ?_
      refine TL.val rfl rfl rfl (Y.move rfl rfl) ?_
      refine TL.val rfl rfl rfl (Y.move rfl rfl) ?_
      refine TL.val rfl rfl rfl (Y.nilCheck rfl rfl) ?_
      refine TL.val rfl rfl rfl (by first | exact Y.fieldAddrJ rfl fo68_10 rfl nqq | exact Y.fieldAddr rfl fo68_10 rfl nqq) ?_
      refine TL.val rfl rfl rfl (Y.load rfl sc3 rfl celN) ?_
      refine TL.as (vN S1.sent) (by rfl) ?_
      refine TL.val rfl rfl rfl (Y.conv rfl Try.underlying3 Try.underlying22 rfl (cv_N_32)) ?_
      refine TL.as (v32 (UInt32.ofNat S1.sent)) (by rfl) ?_
      refine TL.val rfl rfl rfl (Y.bin rfl rfl rfl (br_ltN)) ?_
      refine TL.nil ?_
      refine TQ.next ?_
      refine TC.cond rfl (fun c2 => ?_) (fun c2 => ?_)
      · try simp only [decide_eq_true_eq, decide_eq_false_iff_not, Bool.not_eq_true', Bool.not_eq_false', Bool.and_eq_true, Bool.or_eq_true, Nat.not_lt, Nat.not_le, beq_iff_eq, bne_iff_ne] at c2
        have hks : k.toNat < S1.sent := by rw [hsn1] at c2; exact c2
        have hmq : markQ S1.base S1.sent q (num (r.take 4)) = q.modify k.toNat fun x => (x.1, true) := by unfold markQ; rw [← hk, if_pos (UInt32.lt_iff_toNat_lt.2 (by rw [hsn1]; exact hks))]
        refine TC.know (owns_some (a := p.qa) (n := S1.queue.length) inn (by omega)) ?_
        rintro ⟨g, off, hqa⟩
        rw [hqa]
        refine TC.region ?_
        refine TL.val rfl rfl rfl (Y.move rfl rfl) ?_
        refine TL.val rfl rfl rfl (Y.nilCheck rfl rfl) ?_
        refine TL.val rfl rfl rfl (by first | exact Y.fieldAddrJ rfl fo68_9 rfl nqq | exact Y.fieldAddr rfl fo68_9 rfl nqq) ?_
        refine TL.val rfl rfl rfl (Y.load rfl sc64 rfl celD) ?_
        refine TL.as (.slice (some ⟨g, off, none⟩) S1.queue.length p.qc) (by (first | rfl | (rw [← hqa]; rfl))) ?_
        refine TL.val rfl rfl rfl (Y.move rfl rfl) ?_
        refine TL.val rfl rfl rfl (by first | exact Y.indexSlB rfl sl64 rfl rfl (by omega) nqq | exact Y.indexSl rfl sl64 rfl rfl (by omega) nqq) ?_
        refine TL.val rfl rfl rfl (by first | exact Y.fieldAddrJ rfl fo82_1 rfl nqq | exact Y.fieldAddr rfl fo82_1 rfl nqq) ?_
        refine TL.eff0 rfl rfl (X.storeOwn (off := off) (j := k.toNat * 4 + 3) (cs' := Dat.cs (q.modify k.toNat fun x => (x.1, true))) rfl (by kernel_rfl) rfl (by omega) rfl rfl pul (by omega) (cs_mark (by omega))) ?_
        rintro _ _ rfl
        refine TL.nil ?_
        rw [← hqa, ← hmq]
        refine TQ.block_normal ?_
        refine TQ.loopF ((r.drop 4, markQ S1.base S1.sent q (num (r.take 4)))) (⟨by show (r.drop 4).length % 4 = 0; rw [List.length_drop]; omega, by show (markQ _ _ _ _).map _ = _; rw [markQ_map, hq], by show (words (r.drop 4)).foldl AS.mark _ = _; rw [← hf, words_s hr4, List.foldl_cons, mark_eq]⟩) (by show (r.drop 4).length < r.length; rw [List.length_drop]; omega) trivial (by (repeat first | apply Grow.refl | apply Grow.step | apply Grow.app)) ?_ ?_ ?_
        · kernel_rfl
        · rfl
        · simp only [List.cons_append, List.nil_append]
          exact ett
      · try simp only [decide_eq_true_eq, decide_eq_false_iff_not, Bool.not_eq_true', Bool.not_eq_false', Bool.and_eq_true, Bool.or_eq_true, Nat.not_lt, Nat.not_le, beq_iff_eq, bne_iff_ne] at c2
        have hmq : markQ S1.base S1.sent q (num (r.take 4)) = q := by unfold markQ; rw [← hk, if_neg (fun h => by have := UInt32.lt_iff_toNat_lt.1 h; omega)]
        rw [show Dat.cs q = Dat.cs (markQ S1.base S1.sent q (num (r.take 4))) by rw [hmq]]
        refine TC.skip ?_
        refine TQ.block_normal ?_
        refine TQ.loopF ((r.drop 4, markQ S1.base S1.sent q (num (r.take 4)))) (⟨by show (r.drop 4).length % 4 = 0; rw [List.length_drop]; omega, by show (markQ _ _ _ _).map _ = _; rw [markQ_map, hq], by show (words (r.drop 4)).foldl AS.mark _ = _; rw [← hf, words_s hr4, List.foldl_cons, mark_eq]⟩) (by show (r.drop 4).length < r.length; rw [List.length_drop]; omega) trivial (by (repeat first | apply Grow.refl | apply Grow.step | apply Grow.app)) ?_ ?_ ?_
        · kernel_rfl
        · rfl
        · simp only [List.cons_append, List.nil_append]
          exact ett
    · try simp only [decide_eq_true_eq, decide_eq_false_iff_not, Bool.not_eq_true', Bool.not_eq_false', Bool.and_eq_true, Bool.or_eq_true, Nat.not_lt, Nat.not_le, beq_iff_eq, bne_iff_ne] at c1
      obtain rfl : r = [] := List.length_eq_zero_iff.1 (by omega)
      obtain ⟨T, hT⟩ : ∃ T : AS Msg, T = { S1 with queue := q } := ⟨_, rfl⟩
      have hTa : asC (p) S1 = asC (p) T := by rw [hT]; simp only [asC, hql]
      have hTq : q = T.queue := by rw [hT]
      have hTg : S1.queue.flatMap Dat.g = T.queue.flatMap Dat.g := by rw [← hTq, items_g, items_g, hq]
      have hTs : Short T := ⟨fun x hx => by
          rw [← hTq] at hx
          obtain ⟨y, hy, hyx⟩ := List.mem_map.1 (hq ▸ List.mem_map_of_mem hx : x.1 ∈ S1.queue.map (·.1))
          rw [← hyx]; exact hsh1.queue y hy⟩
      have hTl : T.sent ≤ T.queue.length := by rw [← hTq, hql, hT]; exact hs1
      have hT16 : T.sent ≤ 16 := by rw [hT]; exact h161
      have hfT : (words (l.drop 4)).foldl AS.mark S1 = T := by rw [← hf, hT]; rfl
      rw [hTa, hTg, ← hql, hTq]
      have hack : S.ack1 (num (l.take 4)) (words (l.drop 4)) = T := by rw [AS.ack1, if_neg (by rw [hlf0]; decide), AS.drop1, if_neg (by rw [hlf0]; decide), ← hS1, hfT]
      rw [hack]
      refine TC.exit ?_
      refine TQ.then_exit ?_
      refine TQ.then_exit ?_
      refine TQ.block_exit ?_
      refine TQ.next ?_
      refine TC.seq ?_
      refine TC.seq ?_
      refine TC.region ?_
      refine TL.val rfl rfl rfl (Y.move rfl rfl) ?_
      refine TL.nil ?_
      refine TQ.next ?_
      refine TC.cond_f rfl ?_
      refine TC.skip ?_
      refine TQ.next ?_
      refine TC.seq ?_
      refine TC.region ?_
      refine TL.val rfl rfl rfl (Y.move rfl rfl) ?_
      refine TL.eff rfl rfl rfl (X.call rfl Try.func42 (by kernel_rfl) rfl rfl (Fn.preE (by repeat first | (with_reducible apply Ent.refl) | (apply Ent.cons; case h => first | (with_reducible (repeat first | apply Pull.here | apply Pull.there); done) | (repeat first | apply Pull.here | apply Pull.there))) (more_fn b p T hTs hTl hT16 _))) ?_
      rintro _ _ ⟨o, rfl, ho, rfl⟩
      refine TL.val rfl rfl rfl (Y.assign rfl rfl) ?_
      refine TL.nil ?_
      refine TQ.next ?_
      refine TC.ret ?_
      refine TQ.retE (res1 rfl rfl) (⟨o, p, rfl, rfl, rfl, rfl, rfl, rfl, ho, rfl⟩) ?_
      exact ett

end
end ac
end Go.Proofs.Ytomplpdeeomehaa

/- assoc: Handle of data and sacks. -/
namespace Go.Proofs.Ytomplpdeeomehaa
set_option linter.unusedVariables false
set_option linter.unusedSimpArgs false
open Go.RowKit
namespace ac
open wr (be16 be32)
open rd (num rdB rdL rdV)
namespace FxAsV
set_option maxRecDepth 100000
theorem ag51 : Program.aggN Try.prog 51 = some 3 := by kernel_rfl
theorem el24 : Elt Try.prog 24 23 1 24 (.slice none 0 0) := ⟨Try.underlying24, by kernel_rfl, rfl, by decide, by simp [Value.cells, Value.oneCell']⟩
theorem fo51_2 : Program.fieldOff Try.prog 51 2 = some 2 := by kernel_rfl
theorem fo68_0 : Program.fieldOff Try.prog 68 0 = some 0 := by kernel_rfl
theorem fo68_11 : Program.fieldOff Try.prog 68 11 = some 11 := by kernel_rfl
theorem fo68_3 : Program.fieldOff Try.prog 68 3 = some 3 := by kernel_rfl
theorem pl51 : Program.places Try.prog 51 = some [(0, 1), (1, 1), (2, 1)] := by kernel_rfl
theorem sc2 : Program.isSc Try.prog 2 = true := by kernel_rfl
theorem sc22 : Program.isSc Try.prog 22 = true := by kernel_rfl
theorem sc3 : Program.isSc Try.prog 3 = true := by kernel_rfl
theorem sz51 : (Try.prog.info? 51).map (·.size) = some 3 := by kernel_rfl
theorem zc51 : Program.zeroC Try.prog 51 = some #[.int .u16 0, .int .u32 0, .slice none 0 0] := by kernel_rfl
end FxAsV
open FxAsV
section
variable (b : Nat) (p : AP) (S : AS Msg) (a : Option Addr) (n cap : Nat) (l : List UInt8) (hn : l.length = n) (hl : n ≤ 140737488351232) (now : Int)
include hn hl


theorem H_data (kd : UInt32) (hF : Formed l kd) (hkd : kd = 5) (ht : n32 l 0 = S.tag) (hs : S.state = 3) (hw : S.Win 32) (L : List SA) : Fn Try.prog 12 [pt b 0, .slice a n cap, vI now] (aB b p S :: SA.rds 1 (.slice a n cap) n (l.map v8) :: aM p (S.clocked now) :: L) (fun v L' => ∃ (o : Sl Bs) (g : Sl Msg) (ta : Option Addr) (tc : Nat), v = .tuple #[o.v, g.v, vN 0] ∧ g.l = ((S.clocked now).recv (n32 l 8) ((num ((l.drop 12).take 2)).toUInt16, n32 l 14, ⟨ta, tc, l.drop 18⟩)).1 ∧ o.l.map (·.l) = [((S.clocked now).recv (n32 l 8) ((num ((l.drop 12).take 2)).toUInt16, n32 l 14, ⟨ta, tc, l.drop 18⟩)).2.sackB] ∧ L' = SA.dat o :: SA.dat g :: aB b p ((S.clocked now).recv (n32 l 8) ((num ((l.drop 12).take 2)).toUInt16, n32 l 14, ⟨ta, tc, l.drop 18⟩)).2 :: aM p ((S.clocked now).recv (n32 l 8) ((num ((l.drop 12).take 2)).toUInt16, n32 l 14, ⟨ta, tc, l.drop 18⟩)).2 :: SA.rds 1 (.slice a n cap) n (l.map v8) :: L) := by
  have hlen := hF.len
  have hl1 : 18 ≤ l.length ∧ l.length ≤ 1042 := by have := hF.fits; subst hkd; simp [fitsB] at this; omega
  refine Fn.of (N := 160) Try.func12 rfl rfl ?_
  intro Xh
  refine TC.seq ?_
  refine TC.region ?_
  refine TL.val rfl rfl rfl (Y.assign rfl rfl) ?_
  refine TL.val rfl rfl rfl (Y.assign rfl rfl) ?_
  refine TL.val rfl rfl rfl (Y.assign rfl rfl) ?_
  refine TL.nil ?_
  refine TQ.next ?_
  refine TC.seq ?_
  refine TC.seq ?_
  refine TC.region ?_
  refine TL.val rfl rfl rfl (Y.move rfl rfl) ?_
  refine TL.val rfl rfl rfl (by first | exact Y.eqNilP rfl Try.underlying26 rfl rfl | exact Y.eqNil0 rfl Try.underlying26 rfl rfl) ?_
  refine TL.nil ?_
  refine TQ.next ?_
  refine TC.cond_f rfl ?_
  refine TC.skip ?_
  refine TQ.next ?_
  refine TC.seq ?_
  refine TC.region ?_
  refine TL.val rfl rfl rfl (Y.move rfl rfl) ?_
  refine TL.val rfl rfl rfl (Y.move rfl rfl) ?_
  refine TL.val rfl rfl rfl (Y.nilCheck rfl rfl) ?_
  refine TL.val rfl rfl rfl (by first | exact Y.fieldAddrJ rfl fo68_11 rfl nqq | exact Y.fieldAddr rfl fo68_11 rfl nqq) ?_
  refine TL.val rfl rfl rfl (Y.load rfl sc2 rfl celN) ?_
  refine TL.as (vI S.clock) (by rfl) ?_
  refine TL.val rfl rfl rfl (Y.move rfl rfl) ?_
  refine TL.val rfl rfl rfl (Y.maxI rfl rfl rfl) ?_
  refine TL.as (vI (max S.clock now)) (by rfl) ?_
  refine TL.val rfl rfl rfl (Y.nilCheck rfl rfl) ?_
  refine TL.val rfl rfl rfl (by first | exact Y.fieldAddrJ rfl fo68_11 rfl nqq | exact Y.fieldAddr rfl fo68_11 rfl nqq) ?_
  refine TL.eff0 rfl rfl (X.store (cs' := asC p (S.clocked now)) rfl (by kernel_rfl) rfl rfl rfl pul (by show 11 < 17; decide) rfl) ?_
  rintro _ _ rfl
  refine TL.nil ?_
  refine TQ.next ?_
  refine TC.seq ?_
  refine TC.region ?_
  refine TL.val rfl rfl rfl (Y.move rfl rfl) ?_
  refine TL.eff rfl rfl rfl (X.call rfl Try.func26 (by kernel_rfl) rfl rfl (Fn.preE (by repeat first | (with_reducible apply Ent.refl) | (apply Ent.cons; case h => first | (with_reducible (repeat first | apply Pull.here | apply Pull.there); done) | (repeat first | apply Pull.here | apply Pull.there))) (rd.New_fn a n cap l hn hl _))) ?_
  rintro _ _ ⟨p28, rfl, rfl⟩
  refine TL.val rfl rfl rfl (Y.assign rfl rfl) ?_
  refine TL.nil ?_
  refine TQ.next ?_
  refine TC.seq ?_
  refine TC.region ?_
  refine TL.val rfl rfl rfl (Y.move rfl rfl) ?_
  refine TL.eff rfl rfl rfl (X.call rfl Try.func27 (by kernel_rfl) rfl rfl (Fn.preE (by repeat first | (with_reducible apply Ent.refl) | (apply Ent.cons; case h => first | (with_reducible (repeat first | apply Pull.here | apply Pull.there); done) | (repeat first | apply Pull.here | apply Pull.there))) (u32_ok p28 l (by omega) _))) ?_
  rintro _ _ ⟨rfl, rfl⟩
  rw [show num (l.take 4) = n32 l 0 from rfl]
  refine TL.val rfl rfl rfl (Y.move rfl rfl) ?_
  refine TL.eff rfl rfl rfl (X.call rfl Try.func27 (by kernel_rfl) rfl rfl (Fn.preE (by repeat first | (with_reducible apply Ent.refl) | (apply Ent.cons; case h => first | (with_reducible (repeat first | apply Pull.here | apply Pull.there); done) | (repeat first | apply Pull.here | apply Pull.there))) (u32_ok p28 (l.drop 4) (by rw [List.length_drop]; omega) _))) ?_
  rintro _ _ ⟨rfl, rfl⟩
  rw [show num ((l.drop 4).take 4) = n32 l 4 from rfl, List.drop_drop]
  refine TL.val rfl rfl rfl (Y.assign rfl rfl) ?_
  refine TL.val rfl rfl rfl (Y.assign rfl rfl) ?_
  refine TL.nil ?_
  refine TQ.next ?_
  refine TC.seq ?_
  refine TC.region ?_
  refine TL.val rfl rfl rfl (Y.move rfl rfl) ?_
  refine TL.val rfl rfl rfl (Y.bin rfl rfl rfl (br_shr32 (n := 24))) ?_
  refine TL.as (v32 kd) (by (rw [← hF.kind])) ?_
  refine TL.val rfl rfl rfl (Y.assign rfl rfl) ?_
  refine TL.nil ?_
  refine TQ.next ?_
  refine TC.seq ?_
  refine TC.seq ?_
  refine TC.region ?_
  refine TL.val rfl rfl rfl (Y.move rfl rfl) ?_
  refine TL.eff rfl rfl rfl (X.call rfl Try.func28 (by kernel_rfl) rfl rfl (Fn.preE (by repeat first | (with_reducible apply Ent.refl) | (apply Ent.cons; case h => first | (with_reducible (repeat first | apply Pull.here | apply Pull.there); done) | (repeat first | apply Pull.here | apply Pull.there))) (rd.Bad_fn _ _ _ _))) ?_
  rintro _ _ ⟨rfl, rfl⟩
  refine TL.val rfl rfl rfl (Y.move rfl rfl) ?_
  refine TL.valG rfl rfl rfl (Y.move rfl rfl) ?_
  refine TL.valG rfl rfl rfl (Y.bin rfl rfl rfl (br_and32 (y := 16777215))) ?_
  refine TL.valG rfl rfl rfl (Y.bin rfl rfl rfl (br_ne32 (y := 0))) ?_
  refine TL.is false (by (simpa using hF.low)) ?_
  refine TL.val rfl rfl rfl (Y.pick_f rfl rfl rfl) ?_
  refine TL.val rfl rfl rfl (Y.move rfl rfl) ?_
  refine TL.valG rfl rfl rfl (Y.move rfl rfl) ?_
  refine TL.valG rfl rfl rfl (Y.conv rfl Try.underlying22 Try.underlying5 rfl (cv_32_8)) ?_
  refine TL.valG rfl rfl rfl (Y.move rfl rfl) ?_
  refine TL.effG rfl rfl rfl (X.call rfl Try.func30 (by kernel_rfl) rfl rfl (Fn.preE (by repeat first | (with_reducible apply Ent.refl) | (apply Ent.cons; case h => first | (with_reducible (repeat first | apply Pull.here | apply Pull.there); done) | (repeat first | apply Pull.here | apply Pull.there))) (rd.Left_fn _ _ _ _))) ?_
  rintro _ _ ⟨rfl, rfl⟩
  refine TL.as (vN (l.length - 8)) (by (rw [List.length_drop])) ?_
  refine TL.effG rfl rfl rfl (X.call rfl Try.func29 (by kernel_rfl) rfl rfl (Fn.preE (by repeat first | (with_reducible apply Ent.refl) | (apply Ent.cons; case h => first | (with_reducible (repeat first | apply Pull.here | apply Pull.there); done) | (repeat first | apply Pull.here | apply Pull.there))) (fits_fn kd.toUInt8 (l.length - 8) (by omega) _))) ?_
  rintro _ _ ⟨rfl, rfl⟩
  refine TL.valG rfl rfl rfl (Y.not rfl rfl) ?_
  refine TL.is false (by (rw [hF.fits]; rfl)) ?_
  refine TL.val rfl rfl rfl (Y.pick_f rfl rfl rfl) ?_
  refine TL.val rfl rfl rfl (Y.move rfl rfl) ?_
  refine TL.valG rfl rfl rfl (Y.move rfl rfl) ?_
  refine TL.valG rfl rfl rfl (Y.bin rfl rfl rfl (br_eq32 (y := 0))) ?_
  refine TL.valG rfl rfl rfl (Y.move rfl rfl) ?_
  refine TL.valG rfl rfl rfl (Y.bin rfl rfl rfl (br_eq32 (y := 1))) ?_
  refine TL.valG rfl rfl rfl (Y.neBool rfl Try.underlying4 rfl rfl) ?_
  refine TL.is false (by (have := hF.tagged; by_cases e1 : n32 l 0 = 0 <;> by_cases e2 : kd = 1 <;> simp_all <;> rw [beq_eq_false_iff_ne.2 e1, beq_eq_false_iff_ne.2 e2])) ?_
  refine TL.val rfl rfl rfl (Y.pick_f rfl rfl rfl) ?_
  refine TL.nil ?_
  refine TQ.next ?_
  refine TC.cond_f rfl ?_
  refine TC.skip ?_
  refine TQ.next ?_
  refine TC.seq ?_
  refine TC.seq ?_
  refine TC.region ?_
  refine TL.val rfl rfl rfl (Y.move rfl rfl) ?_
  refine TL.val rfl rfl rfl (Y.bin rfl rfl rfl (br_leN (n := 2))) ?_
  refine TL.is false (by (subst hkd; decide)) ?_
  refine TL.val rfl rfl rfl (Y.move rfl rfl) ?_
  refine TL.not rfl rfl rfl ?_
  refine TL.not rfl rfl rfl ?_
  refine TL.not rfl rfl rfl ?_
  refine TL.not rfl rfl rfl ?_
  refine TL.not rfl rfl rfl ?_
  refine TL.val rfl rfl rfl (Y.pick_f rfl rfl rfl) ?_
  refine TL.nil ?_
  refine TQ.next ?_
  refine TC.cond_f rfl ?_
  refine TC.skip ?_
  refine TQ.next ?_
  refine TC.seq ?_
  refine TC.block ?_
  refine TC.seq ?_
  refine TC.region ?_
  refine TL.val rfl rfl rfl (Y.move rfl rfl) ?_
  refine TL.val rfl rfl rfl (Y.bin rfl rfl rfl (br_eq32 (y := 1))) ?_
  refine TL.is false (by (subst hkd; decide)) ?_
  refine TL.val rfl rfl rfl (Y.assign rfl rfl) ?_
  refine TL.nil ?_
  refine TQ.next ?_
  refine TC.cond_f rfl ?_
  refine TC.seq ?_
  refine TC.region ?_
  refine TL.val rfl rfl rfl (Y.move rfl rfl) ?_
  refine TL.val rfl rfl rfl (Y.move rfl rfl) ?_
  refine TL.val rfl rfl rfl (Y.nilCheck rfl rfl) ?_
  refine TL.val rfl rfl rfl (by first | exact Y.fieldAddrJ rfl fo68_0 rfl nqq | exact Y.fieldAddr rfl fo68_0 rfl nqq) ?_
  refine TL.val rfl rfl rfl (Y.load rfl sc22 rfl cel32) ?_
  refine TL.as (v32 S.tag) (by rfl) ?_
  refine TL.val rfl rfl rfl (Y.bin rfl rfl rfl (br_ne32)) ?_
  refine TL.is false (by (simpa using ht)) ?_
  refine TL.val rfl rfl rfl (Y.assign rfl rfl) ?_
  refine TL.nil ?_
  refine TQ.next ?_
  refine TC.cond_f rfl ?_
  refine TC.seq ?_
  refine TC.region ?_
  refine TL.val rfl rfl rfl (Y.move rfl rfl) ?_
  refine TL.val rfl rfl rfl (Y.bin rfl rfl rfl (br_eq32 (y := 2))) ?_
  refine TL.is false (by (subst hkd; decide)) ?_
  refine TL.val rfl rfl rfl (Y.assign rfl rfl) ?_
  refine TL.nil ?_
  refine TQ.next ?_
  refine TC.cond_f rfl ?_
  refine TC.seq ?_
  refine TC.region ?_
  refine TL.val rfl rfl rfl (Y.move rfl rfl) ?_
  refine TL.val rfl rfl rfl (Y.bin rfl rfl rfl (br_eq32 (y := 3))) ?_
  refine TL.is false (by (subst hkd; decide)) ?_
  refine TL.val rfl rfl rfl (Y.assign rfl rfl) ?_
  refine TL.nil ?_
  refine TQ.next ?_
  refine TC.cond_f rfl ?_
  refine TC.seq ?_
  refine TC.region ?_
  refine TL.val rfl rfl rfl (Y.move rfl rfl) ?_
  refine TL.val rfl rfl rfl (Y.bin rfl rfl rfl (br_eq32 (y := 4))) ?_
  refine TL.is false (by (subst hkd; decide)) ?_
  refine TL.val rfl rfl rfl (Y.assign rfl rfl) ?_
  refine TL.nil ?_
  refine TQ.next ?_
  refine TC.cond_f rfl ?_
  refine TC.seq ?_
  refine TC.region ?_
  refine TL.val rfl rfl rfl (Y.move rfl rfl) ?_
  refine TL.val rfl rfl rfl (Y.bin rfl rfl rfl (br_eq32 (y := 7))) ?_
  refine TL.is false (by (subst hkd; decide)) ?_
  refine TL.val rfl rfl rfl (Y.assign rfl rfl) ?_
  refine TL.nil ?_
  refine TQ.next ?_
  refine TC.cond_f rfl ?_
  refine TC.seq ?_
  refine TC.region ?_
  refine TL.val rfl rfl rfl (Y.move rfl rfl) ?_
  refine TL.val rfl rfl rfl (Y.nilCheck rfl rfl) ?_
  refine TL.val rfl rfl rfl (by first | exact Y.fieldAddrJ rfl fo68_3 rfl nqq | exact Y.fieldAddr rfl fo68_3 rfl nqq) ?_
  refine TL.val rfl rfl rfl (Y.load rfl sc3 rfl celN) ?_
  refine TL.as (vN S.state) (by rfl) ?_
  refine TL.val rfl rfl rfl (Y.bin rfl rfl rfl (br_neN (n := 3))) ?_
  refine TL.is false (by (simpa using hs)) ?_
  refine TL.val rfl rfl rfl (Y.assign rfl rfl) ?_
  refine TL.nil ?_
  refine TQ.next ?_
  refine TC.cond_f rfl ?_
  refine TC.seq ?_
  refine TC.region ?_
  refine TL.val rfl rfl rfl (Y.move rfl rfl) ?_
  refine TL.val rfl rfl rfl (Y.bin rfl rfl rfl (br_eq32 (y := 5))) ?_
  refine TL.is true (by (subst hkd; decide)) ?_
  refine TL.val rfl rfl rfl (Y.assign rfl rfl) ?_
  refine TL.nil ?_
  refine TQ.next ?_
  refine TC.cond_t rfl ?_
  refine TC.seq ?_
  refine TC.region ?_
  refine TL.val rfl rfl rfl (Y.move rfl rfl) ?_
  refine TL.eff rfl rfl rfl (X.call rfl Try.func27 (by kernel_rfl) rfl rfl (Fn.preE (by repeat first | (with_reducible apply Ent.refl) | (apply Ent.cons; case h => first | (with_reducible (repeat first | apply Pull.here | apply Pull.there); done) | (repeat first | apply Pull.here | apply Pull.there))) (u32_ok p28 (l.drop 8) (by rw [List.length_drop]; omega) _))) ?_
  rintro _ _ ⟨rfl, rfl⟩
  rw [List.drop_drop, show num ((l.drop 8).take 4) = n32 l 8 from rfl]
  refine TL.val rfl rfl rfl (Y.assign rfl rfl) ?_
  refine TL.nil ?_
  refine TQ.next ?_
  refine TC.seq ?_
  refine TC.region ?_
  refine TL.val rfl rfl rfl (Y.move rfl rfl) ?_
  refine TL.eff rfl rfl rfl (X.call rfl Try.func34 (by kernel_rfl) rfl rfl (Fn.preE (by repeat first | (with_reducible apply Ent.refl) | (apply Ent.cons; case h => first | (with_reducible (repeat first | apply Pull.here | apply Pull.there); done) | (repeat first | apply Pull.here | apply Pull.there))) (u16_ok p28 (l.drop 12) (by rw [List.length_drop]; omega) _))) ?_
  rintro _ _ ⟨rfl, rfl⟩
  rw [List.drop_drop]
  refine TL.val rfl rfl rfl (Y.move rfl rfl) ?_
  refine TL.eff rfl rfl rfl (X.call rfl Try.func27 (by kernel_rfl) rfl rfl (Fn.preE (by repeat first | (with_reducible apply Ent.refl) | (apply Ent.cons; case h => first | (with_reducible (repeat first | apply Pull.here | apply Pull.there); done) | (repeat first | apply Pull.here | apply Pull.there))) (u32_ok p28 (l.drop 14) (by rw [List.length_drop]; omega) _))) ?_
  rintro _ _ ⟨rfl, rfl⟩
  rw [List.drop_drop, show num ((l.drop 14).take 4) = n32 l 14 from rfl]
  obtain ⟨sx, hsx⟩ : ∃ sx, sx = (num ((l.drop 12).take 2)).toUInt16 := ⟨_, rfl⟩
  obtain ⟨bs, hbs⟩ : ∃ bs, bs = l.drop 18 := ⟨_, rfl⟩
  have hbl : bs.length = l.length - 18 := by rw [hbs, List.length_drop]
  rw [← hsx, ← hbs]
  refine TL.val rfl rfl rfl (Y.buildS (cells := #[v16 sx, v32 (n32 l 14), .slice none 0 0]) rfl rfl pl51 zc51 (by kernel_rfl)) ?_
  refine TL.eff rfl rfl rfl (X.alloc rfl zc51) ?_
  rintro _ _ ⟨b14, rfl, rfl⟩
  refine TL.eff0 rfl rfl (by first | exact X.storeAll rfl sz51 (by rfl) rfl rfl (allOne (by rfl)) pul (by rfl) | exact X.storeAll rfl sz51 szz rfl rfl (by simp [Value.oneCell']) pul szz | exact X.storeAgg rfl sz51 szz rfl rfl (by simp [Value.oneCell']) pul szz (writeM (by ((try simp only [List.length_set, List.length_map, List.length_append, List.length_replicate]); omega)))) ?_
  rintro _ _ rfl
  refine TL.nil ?_
  refine TQ.next ?_
  refine TC.seq ?_
  refine TC.region ?_
  refine TL.val rfl rfl rfl (Y.move rfl rfl) ?_
  refine TL.val rfl rfl rfl (Y.move rfl rfl) ?_
  refine TL.eff rfl rfl rfl (X.call rfl Try.func30 (by kernel_rfl) rfl rfl (Fn.preE (by repeat first | (with_reducible apply Ent.refl) | (apply Ent.cons; case h => first | (with_reducible (repeat first | apply Pull.here | apply Pull.there); done) | (repeat first | apply Pull.here | apply Pull.there))) (rd.Left_fn _ _ _ _))) ?_
  rintro _ _ ⟨rfl, rfl⟩
  refine TL.eff rfl rfl rfl (X.call rfl Try.func35 (by kernel_rfl) rfl rfl (Fn.preE (by repeat first | (with_reducible apply Ent.refl) | (apply Ent.cons; case h => first | (with_reducible (repeat first | apply Pull.here | apply Pull.there); done) | (repeat first | apply Pull.here | apply Pull.there))) (take_ok p28 bs.length bs (Nat.le_refl _) (by omega) _))) ?_
  rintro _ _ ⟨ta, tc, rfl, rfl⟩
  rw [List.take_of_length_le (Nat.le_refl bs.length)]
  refine TL.val rfl rfl rfl (by first | exact Y.fieldAddrJ rfl fo51_2 rfl nqq | exact Y.fieldAddr rfl fo51_2 rfl nqq) ?_
  refine TL.eff0 rfl rfl (X.store (cs' := msC sx (n32 l 14) (.slice ta bs.length tc)) rfl (by kernel_rfl) rfl rfl rfl pul (by show 2 < 3; decide) rfl) ?_
  rintro _ _ rfl
  refine TL.nil ?_
  refine TQ.next ?_
  refine TC.seq ?_
  refine TC.to ((Pull.ent (A := SA.owns 5 1 (.slice ta bs.length tc) bs.length (bs.map v8)) pul).trans (Ent.freeze.trans (Ent.mkBytes rfl))) ?_
  refine TC.region ?_
  refine TL.val rfl rfl rfl (Y.move rfl rfl) ?_
  refine TL.val rfl rfl rfl (Y.move rfl rfl) ?_
  refine TL.val rfl rfl rfl (Y.loadAgg rfl ag51 rfl (Cels.all (cs := msC sx (n32 l 14) (.slice ta bs.length tc)) inn) (by first | rfl | ((try simp only [List.length_map, List.length_set, List.length_replicate]); omega))) ?_
  refine TL.as (.agg (msC sx (n32 l 14) (.slice ta bs.length tc))) (by rfl) ?_
  refine TL.eff rfl rfl rfl (X.call rfl Try.func36 (by kernel_rfl) rfl rfl (Fn.preE (by repeat first | (with_reducible apply Ent.refl) | (apply Ent.cons; case h => first | (with_reducible (repeat first | apply Pull.here | apply Pull.there); done) | (repeat first | apply Pull.here | apply Pull.there))) (receive_fn b p (S.clocked now) (n32 l 8) sx (n32 l 14) ⟨ta, tc, bs⟩ hw _))) ?_
  rintro _ _ ⟨g, rfl, hg, rfl⟩
  refine TL.val rfl rfl rfl (Y.assign rfl rfl) ?_
  refine TL.nil ?_
  obtain ⟨R, hR⟩ : ∃ R, R = (S.clocked now).recv (n32 l 8) (sx, n32 l 14, ⟨ta, tc, bs⟩) := ⟨_, rfl⟩
  rw [← hR]
  refine TQ.next ?_
  refine TC.seq ?_
  refine TC.region ?_
  refine TL.val rfl rfl rfl (Y.move rfl rfl) ?_
  refine TL.eff rfl rfl rfl (X.call rfl Try.func37 (by kernel_rfl) rfl rfl (Fn.preE (by repeat first | (with_reducible apply Ent.refl) | (apply Ent.cons; case h => first | (with_reducible (repeat first | apply Pull.here | apply Pull.there); done) | (repeat first | apply Pull.here | apply Pull.there))) (sack_fn b p R.2 _))) ?_
  rintro _ _ ⟨a154, c154, rfl, rfl⟩
  refine TL.eff rfl rfl rfl (X.lit rfl el24 rfl rfl rfl (by decide) rfl) ?_
  rintro _ _ ⟨g155, rfl, rfl⟩
  refine TL.val rfl rfl rfl (Y.move rfl rfl) ?_
  refine TL.val rfl rfl rfl (Y.assign rfl rfl) ?_
  refine TL.val rfl rfl rfl (Y.assign rfl rfl) ?_
  refine TL.val rfl rfl rfl (Y.assign rfl rfl) ?_
  refine TL.nil ?_
  refine TQ.next ?_
  refine TC.ret ?_
  refine TQ.block_ret ?_
  refine TQ.then_ret ?_
  refine TQ.retE (resL rfl (Res.tmp rfl (Res.tmp rfl (Res.tmp rfl Res.nil)))) (⟨⟨some ⟨g155, 0, none⟩, 1, [⟨a154, c154, R.2.sackB⟩]⟩, g, ta, tc, rfl, hg, by rw [← hR]; rfl, by rw [← hR]⟩) ?_
  exact (Ent.trans (Ent.one1 (a := a154) (g := g155) (l := R.2.sackB) pul pul rfl) ett)

theorem H_sack_left (kd : UInt32) (hF : Formed l kd) (hkd : kd = 6) (ht : n32 l 0 = S.tag) (hs : S.state = 3) (hsh : Short S) (hs1 : S.sent ≤ S.queue.length) (h16 : S.sent ≤ 16) (hq32 : S.queue.length ≤ 32) (hlf : (S.clocked now).left (n32 l 8) = true) (L : List SA) : Fn Try.prog 12 [pt b 0, .slice a n cap, vI now] (aB b p S :: SA.rds 1 (.slice a n cap) n (l.map v8) :: aQ p (S.clocked now) :: aD (S.clocked now) :: L) (fun v L' => ∃ (o : Sl Bs) (p' : AP), p'.sa = p.sa ∧ p'.sc = p.sc ∧ p'.mb = p.mb ∧ p'.ha = p.ha ∧ p'.hc = p.hc ∧ v = .tuple #[o.v, .slice none 0 0, vN 0] ∧ o.l.map (·.l) = (abs ((S.clocked now).ack1 (n32 l 8) (words (l.drop 12)))).moreOut ∧ L' = SA.dat o :: aB b p' ((S.clocked now).ack1 (n32 l 8) (words (l.drop 12))).more :: aQ p' ((S.clocked now).ack1 (n32 l 8) (words (l.drop 12))) :: aD ((S.clocked now).ack1 (n32 l 8) (words (l.drop 12))) :: SA.rds 1 (.slice a n cap) n (l.map v8) :: L) := by
  have hlen := hF.len
  have hl1 : 12 ≤ l.length ∧ l.length % 4 = 0 := by have := hF.fits; subst hkd; simp [fitsB] at this; omega
  refine Fn.of (N := 160) Try.func12 rfl rfl ?_
  intro Xh
  refine TC.seq ?_
  refine TC.region ?_
  refine TL.val rfl rfl rfl (Y.assign rfl rfl) ?_
  refine TL.val rfl rfl rfl (Y.assign rfl rfl) ?_
  refine TL.val rfl rfl rfl (Y.assign rfl rfl) ?_
  refine TL.nil ?_
  refine TQ.next ?_
  refine TC.seq ?_
  refine TC.seq ?_
  refine TC.region ?_
  refine TL.val rfl rfl rfl (Y.move rfl rfl) ?_
  refine TL.val rfl rfl rfl (by first | exact Y.eqNilP rfl Try.underlying26 rfl rfl | exact Y.eqNil0 rfl Try.underlying26 rfl rfl) ?_
  refine TL.nil ?_
  refine TQ.next ?_
  refine TC.cond_f rfl ?_
  refine TC.skip ?_
  refine TQ.next ?_
  refine TC.seq ?_
  refine TC.region ?_
  refine TL.val rfl rfl rfl (Y.move rfl rfl) ?_
  refine TL.val rfl rfl rfl (Y.move rfl rfl) ?_
  refine TL.val rfl rfl rfl (Y.nilCheck rfl rfl) ?_
  refine TL.val rfl rfl rfl (by first | exact Y.fieldAddrJ rfl fo68_11 rfl nqq | exact Y.fieldAddr rfl fo68_11 rfl nqq) ?_
  refine TL.val rfl rfl rfl (Y.load rfl sc2 rfl celN) ?_
  refine TL.as (vI S.clock) (by rfl) ?_
  refine TL.val rfl rfl rfl (Y.move rfl rfl) ?_
  refine TL.val rfl rfl rfl (Y.maxI rfl rfl rfl) ?_
  refine TL.as (vI (max S.clock now)) (by rfl) ?_
  refine TL.val rfl rfl rfl (Y.nilCheck rfl rfl) ?_
  refine TL.val rfl rfl rfl (by first | exact Y.fieldAddrJ rfl fo68_11 rfl nqq | exact Y.fieldAddr rfl fo68_11 rfl nqq) ?_
  refine TL.eff0 rfl rfl (X.store (cs' := asC p (S.clocked now)) rfl (by kernel_rfl) rfl rfl rfl pul (by show 11 < 17; decide) rfl) ?_
  rintro _ _ rfl
  refine TL.nil ?_
  refine TQ.next ?_
  refine TC.seq ?_
  refine TC.region ?_
  refine TL.val rfl rfl rfl (Y.move rfl rfl) ?_
  refine TL.eff rfl rfl rfl (X.call rfl Try.func26 (by kernel_rfl) rfl rfl (Fn.preE (by repeat first | (with_reducible apply Ent.refl) | (apply Ent.cons; case h => first | (with_reducible (repeat first | apply Pull.here | apply Pull.there); done) | (repeat first | apply Pull.here | apply Pull.there))) (rd.New_fn a n cap l hn hl _))) ?_
  rintro _ _ ⟨p28, rfl, rfl⟩
  refine TL.val rfl rfl rfl (Y.assign rfl rfl) ?_
  refine TL.nil ?_
  refine TQ.next ?_
  refine TC.seq ?_
  refine TC.region ?_
  refine TL.val rfl rfl rfl (Y.move rfl rfl) ?_
  refine TL.eff rfl rfl rfl (X.call rfl Try.func27 (by kernel_rfl) rfl rfl (Fn.preE (by repeat first | (with_reducible apply Ent.refl) | (apply Ent.cons; case h => first | (with_reducible (repeat first | apply Pull.here | apply Pull.there); done) | (repeat first | apply Pull.here | apply Pull.there))) (u32_ok p28 l (by omega) _))) ?_
  rintro _ _ ⟨rfl, rfl⟩
  rw [show num (l.take 4) = n32 l 0 from rfl]
  refine TL.val rfl rfl rfl (Y.move rfl rfl) ?_
  refine TL.eff rfl rfl rfl (X.call rfl Try.func27 (by kernel_rfl) rfl rfl (Fn.preE (by repeat first | (with_reducible apply Ent.refl) | (apply Ent.cons; case h => first | (with_reducible (repeat first | apply Pull.here | apply Pull.there); done) | (repeat first | apply Pull.here | apply Pull.there))) (u32_ok p28 (l.drop 4) (by rw [List.length_drop]; omega) _))) ?_
  rintro _ _ ⟨rfl, rfl⟩
  rw [show num ((l.drop 4).take 4) = n32 l 4 from rfl, List.drop_drop]
  refine TL.val rfl rfl rfl (Y.assign rfl rfl) ?_
  refine TL.val rfl rfl rfl (Y.assign rfl rfl) ?_
  refine TL.nil ?_
  refine TQ.next ?_
  refine TC.seq ?_
  refine TC.region ?_
  refine TL.val rfl rfl rfl (Y.move rfl rfl) ?_
  refine TL.val rfl rfl rfl (Y.bin rfl rfl rfl (br_shr32 (n := 24))) ?_
  refine TL.as (v32 kd) (by (rw [← hF.kind])) ?_
  refine TL.val rfl rfl rfl (Y.assign rfl rfl) ?_
  refine TL.nil ?_
  refine TQ.next ?_
  refine TC.seq ?_
  refine TC.seq ?_
  refine TC.region ?_
  refine TL.val rfl rfl rfl (Y.move rfl rfl) ?_
  refine TL.eff rfl rfl rfl (X.call rfl Try.func28 (by kernel_rfl) rfl rfl (Fn.preE (by repeat first | (with_reducible apply Ent.refl) | (apply Ent.cons; case h => first | (with_reducible (repeat first | apply Pull.here | apply Pull.there); done) | (repeat first | apply Pull.here | apply Pull.there))) (rd.Bad_fn _ _ _ _))) ?_
  rintro _ _ ⟨rfl, rfl⟩
  refine TL.val rfl rfl rfl (Y.move rfl rfl) ?_
  refine TL.valG rfl rfl rfl (Y.move rfl rfl) ?_
  refine TL.valG rfl rfl rfl (Y.bin rfl rfl rfl (br_and32 (y := 16777215))) ?_
  refine TL.valG rfl rfl rfl (Y.bin rfl rfl rfl (br_ne32 (y := 0))) ?_
  refine TL.is false (by (simpa using hF.low)) ?_
  refine TL.val rfl rfl rfl (Y.pick_f rfl rfl rfl) ?_
  refine TL.val rfl rfl rfl (Y.move rfl rfl) ?_
  refine TL.valG rfl rfl rfl (Y.move rfl rfl) ?_
  refine TL.valG rfl rfl rfl (Y.conv rfl Try.underlying22 Try.underlying5 rfl (cv_32_8)) ?_
  refine TL.valG rfl rfl rfl (Y.move rfl rfl) ?_
  refine TL.effG rfl rfl rfl (X.call rfl Try.func30 (by kernel_rfl) rfl rfl (Fn.preE (by repeat first | (with_reducible apply Ent.refl) | (apply Ent.cons; case h => first | (with_reducible (repeat first | apply Pull.here | apply Pull.there); done) | (repeat first | apply Pull.here | apply Pull.there))) (rd.Left_fn _ _ _ _))) ?_
  rintro _ _ ⟨rfl, rfl⟩
  refine TL.as (vN (l.length - 8)) (by (rw [List.length_drop])) ?_
  refine TL.effG rfl rfl rfl (X.call rfl Try.func29 (by kernel_rfl) rfl rfl (Fn.preE (by repeat first | (with_reducible apply Ent.refl) | (apply Ent.cons; case h => first | (with_reducible (repeat first | apply Pull.here | apply Pull.there); done) | (repeat first | apply Pull.here | apply Pull.there))) (fits_fn kd.toUInt8 (l.length - 8) (by omega) _))) ?_
  rintro _ _ ⟨rfl, rfl⟩
  refine TL.valG rfl rfl rfl (Y.not rfl rfl) ?_
  refine TL.is false (by (rw [hF.fits]; rfl)) ?_
  refine TL.val rfl rfl rfl (Y.pick_f rfl rfl rfl) ?_
  refine TL.val rfl rfl rfl (Y.move rfl rfl) ?_
  refine TL.valG rfl rfl rfl (Y.move rfl rfl) ?_
  refine TL.valG rfl rfl rfl (Y.bin rfl rfl rfl (br_eq32 (y := 0))) ?_
  refine TL.valG rfl rfl rfl (Y.move rfl rfl) ?_
  refine TL.valG rfl rfl rfl (Y.bin rfl rfl rfl (br_eq32 (y := 1))) ?_
  refine TL.valG rfl rfl rfl (Y.neBool rfl Try.underlying4 rfl rfl) ?_
  refine TL.is false (by (have := hF.tagged; by_cases e1 : n32 l 0 = 0 <;> by_cases e2 : kd = 1 <;> simp_all <;> rw [beq_eq_false_iff_ne.2 e1, beq_eq_false_iff_ne.2 e2])) ?_
  refine TL.val rfl rfl rfl (Y.pick_f rfl rfl rfl) ?_
  refine TL.nil ?_
  refine TQ.next ?_
  refine TC.cond_f rfl ?_
  refine TC.skip ?_
  refine TQ.next ?_
  refine TC.seq ?_
  refine TC.seq ?_
  refine TC.region ?_
  refine TL.val rfl rfl rfl (Y.move rfl rfl) ?_
  refine TL.val rfl rfl rfl (Y.bin rfl rfl rfl (br_leN (n := 2))) ?_
  refine TL.is false (by (subst hkd; decide)) ?_
  refine TL.val rfl rfl rfl (Y.move rfl rfl) ?_
  refine TL.not rfl rfl rfl ?_
  refine TL.not rfl rfl rfl ?_
  refine TL.not rfl rfl rfl ?_
  refine TL.not rfl rfl rfl ?_
  refine TL.not rfl rfl rfl ?_
  refine TL.val rfl rfl rfl (Y.pick_f rfl rfl rfl) ?_
  refine TL.nil ?_
  refine TQ.next ?_
  refine TC.cond_f rfl ?_
  refine TC.skip ?_
  refine TQ.next ?_
  refine TC.seq ?_
  refine TC.block ?_
  refine TC.seq ?_
  refine TC.region ?_
  refine TL.val rfl rfl rfl (Y.move rfl rfl) ?_
  refine TL.val rfl rfl rfl (Y.bin rfl rfl rfl (br_eq32 (y := 1))) ?_
  refine TL.is false (by (subst hkd; decide)) ?_
  refine TL.val rfl rfl rfl (Y.assign rfl rfl) ?_
  refine TL.nil ?_
  refine TQ.next ?_
  refine TC.cond_f rfl ?_
  refine TC.seq ?_
  refine TC.region ?_
  refine TL.val rfl rfl rfl (Y.move rfl rfl) ?_
  refine TL.val rfl rfl rfl (Y.move rfl rfl) ?_
  refine TL.val rfl rfl rfl (Y.nilCheck rfl rfl) ?_
  refine TL.val rfl rfl rfl (by first | exact Y.fieldAddrJ rfl fo68_0 rfl nqq | exact Y.fieldAddr rfl fo68_0 rfl nqq) ?_
  refine TL.val rfl rfl rfl (Y.load rfl sc22 rfl cel32) ?_
  refine TL.as (v32 S.tag) (by rfl) ?_
  refine TL.val rfl rfl rfl (Y.bin rfl rfl rfl (br_ne32)) ?_
  refine TL.is false (by (simpa using ht)) ?_
  refine TL.val rfl rfl rfl (Y.assign rfl rfl) ?_
  refine TL.nil ?_
  refine TQ.next ?_
  refine TC.cond_f rfl ?_
  refine TC.seq ?_
  refine TC.region ?_
  refine TL.val rfl rfl rfl (Y.move rfl rfl) ?_
  refine TL.val rfl rfl rfl (Y.bin rfl rfl rfl (br_eq32 (y := 2))) ?_
  refine TL.is false (by (subst hkd; decide)) ?_
  refine TL.val rfl rfl rfl (Y.assign rfl rfl) ?_
  refine TL.nil ?_
  refine TQ.next ?_
  refine TC.cond_f rfl ?_
  refine TC.seq ?_
  refine TC.region ?_
  refine TL.val rfl rfl rfl (Y.move rfl rfl) ?_
  refine TL.val rfl rfl rfl (Y.bin rfl rfl rfl (br_eq32 (y := 3))) ?_
  refine TL.is false (by (subst hkd; decide)) ?_
  refine TL.val rfl rfl rfl (Y.assign rfl rfl) ?_
  refine TL.nil ?_
  refine TQ.next ?_
  refine TC.cond_f rfl ?_
  refine TC.seq ?_
  refine TC.region ?_
  refine TL.val rfl rfl rfl (Y.move rfl rfl) ?_
  refine TL.val rfl rfl rfl (Y.bin rfl rfl rfl (br_eq32 (y := 4))) ?_
  refine TL.is false (by (subst hkd; decide)) ?_
  refine TL.val rfl rfl rfl (Y.assign rfl rfl) ?_
  refine TL.nil ?_
  refine TQ.next ?_
  refine TC.cond_f rfl ?_
  refine TC.seq ?_
  refine TC.region ?_
  refine TL.val rfl rfl rfl (Y.move rfl rfl) ?_
  refine TL.val rfl rfl rfl (Y.bin rfl rfl rfl (br_eq32 (y := 7))) ?_
  refine TL.is false (by (subst hkd; decide)) ?_
  refine TL.val rfl rfl rfl (Y.assign rfl rfl) ?_
  refine TL.nil ?_
  refine TQ.next ?_
  refine TC.cond_f rfl ?_
  refine TC.seq ?_
  refine TC.region ?_
  refine TL.val rfl rfl rfl (Y.move rfl rfl) ?_
  refine TL.val rfl rfl rfl (Y.nilCheck rfl rfl) ?_
  refine TL.val rfl rfl rfl (by first | exact Y.fieldAddrJ rfl fo68_3 rfl nqq | exact Y.fieldAddr rfl fo68_3 rfl nqq) ?_
  refine TL.val rfl rfl rfl (Y.load rfl sc3 rfl celN) ?_
  refine TL.as (vN S.state) (by rfl) ?_
  refine TL.val rfl rfl rfl (Y.bin rfl rfl rfl (br_neN (n := 3))) ?_
  refine TL.is false (by (simpa using hs)) ?_
  refine TL.val rfl rfl rfl (Y.assign rfl rfl) ?_
  refine TL.nil ?_
  refine TQ.next ?_
  refine TC.cond_f rfl ?_
  refine TC.seq ?_
  refine TC.region ?_
  refine TL.val rfl rfl rfl (Y.move rfl rfl) ?_
  refine TL.val rfl rfl rfl (Y.bin rfl rfl rfl (br_eq32 (y := 5))) ?_
  refine TL.is false (by (subst hkd; decide)) ?_
  refine TL.val rfl rfl rfl (Y.assign rfl rfl) ?_
  refine TL.nil ?_
  refine TQ.next ?_
  refine TC.cond_f rfl ?_
  refine TC.skip ?_
  refine TQ.block_normal ?_
  refine TQ.next ?_
  refine TC.seq ?_
  refine TC.region ?_
  refine TL.val rfl rfl rfl (Y.move rfl rfl) ?_
  refine TL.val rfl rfl rfl (Y.move rfl rfl) ?_
  refine TL.eff rfl rfl rfl (X.call rfl Try.func38 (by kernel_rfl) rfl rfl (Fn.preE (by repeat first | (with_reducible apply Ent.refl) | (apply Ent.cons; case h => first | (with_reducible (repeat first | apply Pull.here | apply Pull.there); done) | (repeat first | apply Pull.here | apply Pull.there))) (acked_left b p (S.clocked now) (by have := hsh; exact ⟨this.queue⟩) hs1 h16 hq32 p28 (l.drop 8) (by rw [List.length_drop]; omega) (by rw [List.length_drop]; omega) hlf _))) ?_
  rintro _ _ ⟨o, p', e1, e2, e3, e4, e5, rfl, ho, rfl⟩
  simp only [List.drop_drop] at ho ⊢
  refine TL.val rfl rfl rfl (Y.assign rfl rfl) ?_
  refine TL.val rfl rfl rfl (Y.assign rfl rfl) ?_
  refine TL.val rfl rfl rfl (Y.assign rfl rfl) ?_
  refine TL.nil ?_
  refine TQ.next ?_
  refine TC.ret ?_
  refine TQ.retE (resL rfl (Res.tmp rfl (Res.tmp rfl (Res.tmp rfl Res.nil)))) (⟨o, p', e1, e2, e3, e4, e5, rfl, ho, rfl⟩) ?_
  exact ett

theorem H_sack_not (kd : UInt32) (hF : Formed l kd) (hkd : kd = 6) (ht : n32 l 0 = S.tag) (hs : S.state = 3) (hsh : Short S) (hs1 : S.sent ≤ S.queue.length) (h16 : S.sent ≤ 16) (hq32 : S.queue.length ≤ 32) (hlf : (S.clocked now).left (n32 l 8) = false) (L : List SA) : Fn Try.prog 12 [pt b 0, .slice a n cap, vI now] (aB b p S :: SA.rds 1 (.slice a n cap) n (l.map v8) :: aQ p (S.clocked now) :: aD (S.clocked now) :: L) (fun v L' => ∃ (o : Sl Bs) (p' : AP), p'.sa = p.sa ∧ p'.sc = p.sc ∧ p'.mb = p.mb ∧ p'.ha = p.ha ∧ p'.hc = p.hc ∧ v = .tuple #[o.v, .slice none 0 0, vN 0] ∧ o.l.map (·.l) = (abs ((S.clocked now).ack1 (n32 l 8) (words (l.drop 12)))).moreOut ∧ L' = SA.dat o :: aB b p' ((S.clocked now).ack1 (n32 l 8) (words (l.drop 12))).more :: aQ p' ((S.clocked now).ack1 (n32 l 8) (words (l.drop 12))) :: aD ((S.clocked now).ack1 (n32 l 8) (words (l.drop 12))) :: SA.rds 1 (.slice a n cap) n (l.map v8) :: L) := by
  have hlen := hF.len
  have hl1 : 12 ≤ l.length ∧ l.length % 4 = 0 := by have := hF.fits; subst hkd; simp [fitsB] at this; omega
  refine Fn.of (N := 160) Try.func12 rfl rfl ?_
  intro Xh
  refine TC.seq ?_
  refine TC.region ?_
  refine TL.val rfl rfl rfl (Y.assign rfl rfl) ?_
  refine TL.val rfl rfl rfl (Y.assign rfl rfl) ?_
  refine TL.val rfl rfl rfl (Y.assign rfl rfl) ?_
  refine TL.nil ?_
  refine TQ.next ?_
  refine TC.seq ?_
  refine TC.seq ?_
  refine TC.region ?_
  refine TL.val rfl rfl rfl (Y.move rfl rfl) ?_
  refine TL.val rfl rfl rfl (by first | exact Y.eqNilP rfl Try.underlying26 rfl rfl | exact Y.eqNil0 rfl Try.underlying26 rfl rfl) ?_
  refine TL.nil ?_
  refine TQ.next ?_
  refine TC.cond_f rfl ?_
  refine TC.skip ?_
  refine TQ.next ?_
  refine TC.seq ?_
  refine TC.region ?_
  refine TL.val rfl rfl rfl (Y.move rfl rfl) ?_
  refine TL.val rfl rfl rfl (Y.move rfl rfl) ?_
  refine TL.val rfl rfl rfl (Y.nilCheck rfl rfl) ?_
  refine TL.val rfl rfl rfl (by first | exact Y.fieldAddrJ rfl fo68_11 rfl nqq | exact Y.fieldAddr rfl fo68_11 rfl nqq) ?_
  refine TL.val rfl rfl rfl (Y.load rfl sc2 rfl celN) ?_
  refine TL.as (vI S.clock) (by rfl) ?_
  refine TL.val rfl rfl rfl (Y.move rfl rfl) ?_
  refine TL.val rfl rfl rfl (Y.maxI rfl rfl rfl) ?_
  refine TL.as (vI (max S.clock now)) (by rfl) ?_
  refine TL.val rfl rfl rfl (Y.nilCheck rfl rfl) ?_
  refine TL.val rfl rfl rfl (by first | exact Y.fieldAddrJ rfl fo68_11 rfl nqq | exact Y.fieldAddr rfl fo68_11 rfl nqq) ?_
  refine TL.eff0 rfl rfl (X.store (cs' := asC p (S.clocked now)) rfl (by kernel_rfl) rfl rfl rfl pul (by show 11 < 17; decide) rfl) ?_
  rintro _ _ rfl
  refine TL.nil ?_
  refine TQ.next ?_
  refine TC.seq ?_
  refine TC.region ?_
  refine TL.val rfl rfl rfl (Y.move rfl rfl) ?_
  refine TL.eff rfl rfl rfl (X.call rfl Try.func26 (by kernel_rfl) rfl rfl (Fn.preE (by repeat first | (with_reducible apply Ent.refl) | (apply Ent.cons; case h => first | (with_reducible (repeat first | apply Pull.here | apply Pull.there); done) | (repeat first | apply Pull.here | apply Pull.there))) (rd.New_fn a n cap l hn hl _))) ?_
  rintro _ _ ⟨p28, rfl, rfl⟩
  refine TL.val rfl rfl rfl (Y.assign rfl rfl) ?_
  refine TL.nil ?_
  refine TQ.next ?_
  refine TC.seq ?_
  refine TC.region ?_
  refine TL.val rfl rfl rfl (Y.move rfl rfl) ?_
  refine TL.eff rfl rfl rfl (X.call rfl Try.func27 (by kernel_rfl) rfl rfl (Fn.preE (by repeat first | (with_reducible apply Ent.refl) | (apply Ent.cons; case h => first | (with_reducible (repeat first | apply Pull.here | apply Pull.there); done) | (repeat first | apply Pull.here | apply Pull.there))) (u32_ok p28 l (by omega) _))) ?_
  rintro _ _ ⟨rfl, rfl⟩
  rw [show num (l.take 4) = n32 l 0 from rfl]
  refine TL.val rfl rfl rfl (Y.move rfl rfl) ?_
  refine TL.eff rfl rfl rfl (X.call rfl Try.func27 (by kernel_rfl) rfl rfl (Fn.preE (by repeat first | (with_reducible apply Ent.refl) | (apply Ent.cons; case h => first | (with_reducible (repeat first | apply Pull.here | apply Pull.there); done) | (repeat first | apply Pull.here | apply Pull.there))) (u32_ok p28 (l.drop 4) (by rw [List.length_drop]; omega) _))) ?_
  rintro _ _ ⟨rfl, rfl⟩
  rw [show num ((l.drop 4).take 4) = n32 l 4 from rfl, List.drop_drop]
  refine TL.val rfl rfl rfl (Y.assign rfl rfl) ?_
  refine TL.val rfl rfl rfl (Y.assign rfl rfl) ?_
  refine TL.nil ?_
  refine TQ.next ?_
  refine TC.seq ?_
  refine TC.region ?_
  refine TL.val rfl rfl rfl (Y.move rfl rfl) ?_
  refine TL.val rfl rfl rfl (Y.bin rfl rfl rfl (br_shr32 (n := 24))) ?_
  refine TL.as (v32 kd) (by (rw [← hF.kind])) ?_
  refine TL.val rfl rfl rfl (Y.assign rfl rfl) ?_
  refine TL.nil ?_
  refine TQ.next ?_
  refine TC.seq ?_
  refine TC.seq ?_
  refine TC.region ?_
  refine TL.val rfl rfl rfl (Y.move rfl rfl) ?_
  refine TL.eff rfl rfl rfl (X.call rfl Try.func28 (by kernel_rfl) rfl rfl (Fn.preE (by repeat first | (with_reducible apply Ent.refl) | (apply Ent.cons; case h => first | (with_reducible (repeat first | apply Pull.here | apply Pull.there); done) | (repeat first | apply Pull.here | apply Pull.there))) (rd.Bad_fn _ _ _ _))) ?_
  rintro _ _ ⟨rfl, rfl⟩
  refine TL.val rfl rfl rfl (Y.move rfl rfl) ?_
  refine TL.valG rfl rfl rfl (Y.move rfl rfl) ?_
  refine TL.valG rfl rfl rfl (Y.bin rfl rfl rfl (br_and32 (y := 16777215))) ?_
  refine TL.valG rfl rfl rfl (Y.bin rfl rfl rfl (br_ne32 (y := 0))) ?_
  refine TL.is false (by (simpa using hF.low)) ?_
  refine TL.val rfl rfl rfl (Y.pick_f rfl rfl rfl) ?_
  refine TL.val rfl rfl rfl (Y.move rfl rfl) ?_
  refine TL.valG rfl rfl rfl (Y.move rfl rfl) ?_
  refine TL.valG rfl rfl rfl (Y.conv rfl Try.underlying22 Try.underlying5 rfl (cv_32_8)) ?_
  refine TL.valG rfl rfl rfl (Y.move rfl rfl) ?_
  refine TL.effG rfl rfl rfl (X.call rfl Try.func30 (by kernel_rfl) rfl rfl (Fn.preE (by repeat first | (with_reducible apply Ent.refl) | (apply Ent.cons; case h => first | (with_reducible (repeat first | apply Pull.here | apply Pull.there); done) | (repeat first | apply Pull.here | apply Pull.there))) (rd.Left_fn _ _ _ _))) ?_
  rintro _ _ ⟨rfl, rfl⟩
  refine TL.as (vN (l.length - 8)) (by (rw [List.length_drop])) ?_
  refine TL.effG rfl rfl rfl (X.call rfl Try.func29 (by kernel_rfl) rfl rfl (Fn.preE (by repeat first | (with_reducible apply Ent.refl) | (apply Ent.cons; case h => first | (with_reducible (repeat first | apply Pull.here | apply Pull.there); done) | (repeat first | apply Pull.here | apply Pull.there))) (fits_fn kd.toUInt8 (l.length - 8) (by omega) _))) ?_
  rintro _ _ ⟨rfl, rfl⟩
  refine TL.valG rfl rfl rfl (Y.not rfl rfl) ?_
  refine TL.is false (by (rw [hF.fits]; rfl)) ?_
  refine TL.val rfl rfl rfl (Y.pick_f rfl rfl rfl) ?_
  refine TL.val rfl rfl rfl (Y.move rfl rfl) ?_
  refine TL.valG rfl rfl rfl (Y.move rfl rfl) ?_
  refine TL.valG rfl rfl rfl (Y.bin rfl rfl rfl (br_eq32 (y := 0))) ?_
  refine TL.valG rfl rfl rfl (Y.move rfl rfl) ?_
  refine TL.valG rfl rfl rfl (Y.bin rfl rfl rfl (br_eq32 (y := 1))) ?_
  refine TL.valG rfl rfl rfl (Y.neBool rfl Try.underlying4 rfl rfl) ?_
  refine TL.is false (by (have := hF.tagged; by_cases e1 : n32 l 0 = 0 <;> by_cases e2 : kd = 1 <;> simp_all <;> rw [beq_eq_false_iff_ne.2 e1, beq_eq_false_iff_ne.2 e2])) ?_
  refine TL.val rfl rfl rfl (Y.pick_f rfl rfl rfl) ?_
  refine TL.nil ?_
  refine TQ.next ?_
  refine TC.cond_f rfl ?_
  refine TC.skip ?_
  refine TQ.next ?_
  refine TC.seq ?_
  refine TC.seq ?_
  refine TC.region ?_
  refine TL.val rfl rfl rfl (Y.move rfl rfl) ?_
  refine TL.val rfl rfl rfl (Y.bin rfl rfl rfl (br_leN (n := 2))) ?_
  refine TL.is false (by (subst hkd; decide)) ?_
  refine TL.val rfl rfl rfl (Y.move rfl rfl) ?_
  refine TL.not rfl rfl rfl ?_
  refine TL.not rfl rfl rfl ?_
  refine TL.not rfl rfl rfl ?_
  refine TL.not rfl rfl rfl ?_
  refine TL.not rfl rfl rfl ?_
  refine TL.val rfl rfl rfl (Y.pick_f rfl rfl rfl) ?_
  refine TL.nil ?_
  refine TQ.next ?_
  refine TC.cond_f rfl ?_
  refine TC.skip ?_
  refine TQ.next ?_
  refine TC.seq ?_
  refine TC.block ?_
  refine TC.seq ?_
  refine TC.region ?_
  refine TL.val rfl rfl rfl (Y.move rfl rfl) ?_
  refine TL.val rfl rfl rfl (Y.bin rfl rfl rfl (br_eq32 (y := 1))) ?_
  refine TL.is false (by (subst hkd; decide)) ?_
  refine TL.val rfl rfl rfl (Y.assign rfl rfl) ?_
  refine TL.nil ?_
  refine TQ.next ?_
  refine TC.cond_f rfl ?_
  refine TC.seq ?_
  refine TC.region ?_
  refine TL.val rfl rfl rfl (Y.move rfl rfl) ?_
  refine TL.val rfl rfl rfl (Y.move rfl rfl) ?_
  refine TL.val rfl rfl rfl (Y.nilCheck rfl rfl) ?_
  refine TL.val rfl rfl rfl (by first | exact Y.fieldAddrJ rfl fo68_0 rfl nqq | exact Y.fieldAddr rfl fo68_0 rfl nqq) ?_
  refine TL.val rfl rfl rfl (Y.load rfl sc22 rfl cel32) ?_
  refine TL.as (v32 S.tag) (by rfl) ?_
  refine TL.val rfl rfl rfl (Y.bin rfl rfl rfl (br_ne32)) ?_
  refine TL.is false (by (simpa using ht)) ?_
  refine TL.val rfl rfl rfl (Y.assign rfl rfl) ?_
  refine TL.nil ?_
  refine TQ.next ?_
  refine TC.cond_f rfl ?_
  refine TC.seq ?_
  refine TC.region ?_
  refine TL.val rfl rfl rfl (Y.move rfl rfl) ?_
  refine TL.val rfl rfl rfl (Y.bin rfl rfl rfl (br_eq32 (y := 2))) ?_
  refine TL.is false (by (subst hkd; decide)) ?_
  refine TL.val rfl rfl rfl (Y.assign rfl rfl) ?_
  refine TL.nil ?_
  refine TQ.next ?_
  refine TC.cond_f rfl ?_
  refine TC.seq ?_
  refine TC.region ?_
  refine TL.val rfl rfl rfl (Y.move rfl rfl) ?_
  refine TL.val rfl rfl rfl (Y.bin rfl rfl rfl (br_eq32 (y := 3))) ?_
  refine TL.is false (by (subst hkd; decide)) ?_
  refine TL.val rfl rfl rfl (Y.assign rfl rfl) ?_
  refine TL.nil ?_
  refine TQ.next ?_
  refine TC.cond_f rfl ?_
  refine TC.seq ?_
  refine TC.region ?_
  refine TL.val rfl rfl rfl (Y.move rfl rfl) ?_
  refine TL.val rfl rfl rfl (Y.bin rfl rfl rfl (br_eq32 (y := 4))) ?_
  refine TL.is false (by (subst hkd; decide)) ?_
  refine TL.val rfl rfl rfl (Y.assign rfl rfl) ?_
  refine TL.nil ?_
  refine TQ.next ?_
  refine TC.cond_f rfl ?_
  refine TC.seq ?_
  refine TC.region ?_
  refine TL.val rfl rfl rfl (Y.move rfl rfl) ?_
  refine TL.val rfl rfl rfl (Y.bin rfl rfl rfl (br_eq32 (y := 7))) ?_
  refine TL.is false (by (subst hkd; decide)) ?_
  refine TL.val rfl rfl rfl (Y.assign rfl rfl) ?_
  refine TL.nil ?_
  refine TQ.next ?_
  refine TC.cond_f rfl ?_
  refine TC.seq ?_
  refine TC.region ?_
  refine TL.val rfl rfl rfl (Y.move rfl rfl) ?_
  refine TL.val rfl rfl rfl (Y.nilCheck rfl rfl) ?_
  refine TL.val rfl rfl rfl (by first | exact Y.fieldAddrJ rfl fo68_3 rfl nqq | exact Y.fieldAddr rfl fo68_3 rfl nqq) ?_
  refine TL.val rfl rfl rfl (Y.load rfl sc3 rfl celN) ?_
  refine TL.as (vN S.state) (by rfl) ?_
  refine TL.val rfl rfl rfl (Y.bin rfl rfl rfl (br_neN (n := 3))) ?_
  refine TL.is false (by (simpa using hs)) ?_
  refine TL.val rfl rfl rfl (Y.assign rfl rfl) ?_
  refine TL.nil ?_
  refine TQ.next ?_
  refine TC.cond_f rfl ?_
  refine TC.seq ?_
  refine TC.region ?_
  refine TL.val rfl rfl rfl (Y.move rfl rfl) ?_
  refine TL.val rfl rfl rfl (Y.bin rfl rfl rfl (br_eq32 (y := 5))) ?_
  refine TL.is false (by (subst hkd; decide)) ?_
  refine TL.val rfl rfl rfl (Y.assign rfl rfl) ?_
  refine TL.nil ?_
  refine TQ.next ?_
  refine TC.cond_f rfl ?_
  refine TC.skip ?_
  refine TQ.block_normal ?_
  refine TQ.next ?_
  refine TC.seq ?_
  refine TC.region ?_
  refine TL.val rfl rfl rfl (Y.move rfl rfl) ?_
  refine TL.val rfl rfl rfl (Y.move rfl rfl) ?_
  refine TL.eff rfl rfl rfl (X.call rfl Try.func38 (by kernel_rfl) rfl rfl (Fn.preE (by repeat first | (with_reducible apply Ent.refl) | (apply Ent.cons; case h => first | (with_reducible (repeat first | apply Pull.here | apply Pull.there); done) | (repeat first | apply Pull.here | apply Pull.there))) (acked_not b p (S.clocked now) (by have := hsh; exact ⟨this.queue⟩) hs1 h16 p28 (l.drop 8) (by rw [List.length_drop]; omega) (by rw [List.length_drop]; omega) hlf _))) ?_
  rintro _ _ ⟨o, p', e1, e2, e3, e4, e5, rfl, ho, rfl⟩
  simp only [List.drop_drop] at ho ⊢
  refine TL.val rfl rfl rfl (Y.assign rfl rfl) ?_
  refine TL.val rfl rfl rfl (Y.assign rfl rfl) ?_
  refine TL.val rfl rfl rfl (Y.assign rfl rfl) ?_
  refine TL.nil ?_
  refine TQ.next ?_
  refine TC.ret ?_
  refine TQ.retE (resL rfl (Res.tmp rfl (Res.tmp rfl (Res.tmp rfl Res.nil)))) (⟨o, p', e1, e2, e3, e4, e5, rfl, ho, rfl⟩) ?_
  exact ett

end
end ac
end Go.Proofs.Ytomplpdeeomehaa

/- assoc: what a side does does not look into messages. -/
namespace Go.Proofs.Ytomplpdeeomehaa
set_option linter.unusedVariables false
set_option linter.unusedSimpArgs false
open Go.RowKit
namespace ac
open wr (be16 be32)
open rd (num)
/-- a formed packet of a kind is taken -/
def AS.handle2 (S : PS) (b : List UInt8) (k : UInt32) : PS × List (List UInt8) × List PM × Nat :=
  if k ≤ 2 ∧ n32 b 8 = 0 then (S, [], [], 2)
  else if k = 1 then (if S.state ≠ 0 ∧ S.state ≠ 3 then (S, [], [], 9) else (S, [S.initAckB (n32 b 8) (n32 b 12)], [], 0))
  else if n32 b 0 ≠ S.tag then (S, [], [], 4)
  else if k = 2 then (if S.state ≠ 1 then (S, [], [], 9) else (S.echo (n32 b 8) (n32 b 12) (b.drop 16), [echoB (n32 b 8) (b.drop 16)], [], 0))
  else if k = 3 then (
    if b.drop 8 ≠ cookieB S (n32 b 8) (n32 b 12) then (S, [], [], 4)
    else if S.state = 0 then (S.opened (n32 b 8) (n32 b 12), [pkt (n32 b 8) 4], [], 0)
    else if S.state ≠ 3 ∨ S.other ≠ n32 b 8 then (S, [], [], 9)
    else (S, [pkt S.other 4], [], 0))
  else if k = 4 then (if S.state = 2 then ({ S with state := 3, tset := false }, [], [], 0) else if S.state = 3 then (S, [], [], 0) else (S, [], [], 9))
  else if k = 7 then ({ S with state := 4, tset := false }, [], [], 0)
  else if S.state ≠ 3 then (S, [], [], 9)
  else if k = 5 then (
    let r := S.recv (n32 b 8) ((num ((b.drop 12).take 2)).toUInt16, n32 b 14, b.drop 18)
    (r.2, [r.2.sackB], r.1, 0))
  else (
    let S2 := S.ack1 (n32 b 8) (words (b.drop 12))
    (S2.more, S2.moreOut, [], 0))
theorem abs_keep (S : AS Msg) (t : UInt32) (m : Msg) : abs (S.keep t m) = (abs S).keep t (pm m) := by
  have e : ((abs S).kept t).isNone = (S.kept t).isNone := by show ((S.kept t).map pm).isNone = _; simp
  unfold AS.keep
  rw [e]
  by_cases h : (S.kept t).isNone = true ∧ t - S.top - 1 < 32
  · rw [if_pos h, if_pos (show (S.kept t).isNone = true ∧ t - (abs S).top - 1 < 32 from h)]
    have : (fun k => (mput S.kept t m k).map pm) = mput (fun k => (S.kept k).map pm) t (pm m) := by
      funext k; unfold mput; split <;> rfl
    unfold abs; simp only [this]
  · rw [if_neg h, if_neg (show ¬ ((S.kept t).isNone = true ∧ t - (abs S).top - 1 < 32) from h)]
theorem abs_step1 (S : AS Msg) : abs S.step1 = (abs S).step1 := by
  have : (fun k => (mdel S.kept (S.top + 1) k).map pm) = mdel (fun k => (S.kept k).map pm) (S.top + 1) := by
    funext k; unfold mdel; split <;> rfl
  unfold AS.step1 abs; simp only [this]
theorem abs_deliver (f : Nat) : ∀ S : AS Msg, ((abs S).deliver f) = ((S.deliver f).1.map pm, abs (S.deliver f).2) := by
  induction f with
  | zero => intro S; rfl
  | succ f ih =>
    intro S
    have e : (abs S).kept ((abs S).top + 1) = (S.kept (S.top + 1)).map pm := rfl
    rw [AS.deliver, e, AS.deliver]
    cases h : S.kept (S.top + 1) with
    | none => rfl
    | some m =>
      simp only [Option.map_some]
      rw [← abs_step1, ih]
      rfl
theorem abs_recv (S : AS Msg) (t : UInt32) (m : Msg) : (abs S).recv t (pm m) = ((S.recv t m).1.map pm, abs (S.recv t m).2) := by
  unfold AS.recv; rw [← abs_keep, abs_deliver]
theorem abs_beyond (S : AS Msg) : (abs S).beyond = S.beyond := by
  unfold AS.beyond
  congr 1
  funext t
  show ((S.kept t).map pm).isSome = _
  simp
theorem abs_sackB (S : AS Msg) : (abs S).sackB = S.sackB := by unfold AS.sackB; rw [abs_beyond]; rfl
theorem abs_win (S : AS Msg) : (abs S).win = S.win := by
  unfold AS.win
  show List.range' S.sent (min (S.queue.map fun x => (pm x.1, x.2)).length 16 - S.sent) = _
  rw [List.length_map]
theorem abs_more (S : AS Msg) : abs S.more = (abs S).more := by
  unfold AS.more
  rw [abs_win]
  have e : (abs S).queue.length = S.queue.length := by show (S.queue.map fun x => (pm x.1, x.2)).length = _; rw [List.length_map]
  rw [e]
  by_cases h : S.win ≠ [] ∧ S.tset = false
  · rw [if_pos h, if_pos (show S.win ≠ [] ∧ (abs S).tset = false from h)]; rfl
  · rw [if_neg h, if_neg (show ¬ (S.win ≠ [] ∧ (abs S).tset = false) from h)]; rfl
theorem abs_cutQ (S : AS Msg) (n : UInt32) : abs (S.cutQ n) = (abs S).cutQ n := by
  unfold AS.cutQ abs; simp only [List.map_drop]
theorem abs_mark (S : AS Msg) (t : UInt32) : abs (S.mark t) = (abs S).mark t := by
  unfold AS.mark
  by_cases h : t - S.base < UInt32.ofNat S.sent
  · rw [if_pos h, if_pos (show t - (abs S).base < UInt32.ofNat (abs S).sent from h)]
    have : (S.queue.modify (t - S.base).toNat fun x => (x.1, true)).map (fun x => (pm x.1, x.2)) = (S.queue.map fun x => (pm x.1, x.2)).modify (t - S.base).toNat fun x => (x.1, true) := by
      apply List.ext_getElem?
      intro j
      rw [List.getElem?_map, List.getElem?_modify, List.getElem?_modify, List.getElem?_map]
      by_cases hj : (t - S.base).toNat = j <;> cases S.queue[j]? <;> simp [hj]
    unfold abs; simp only [this]
  · rw [if_neg h, if_neg (show ¬ t - (abs S).base < UInt32.ofNat (abs S).sent from h)]
theorem abs_marks (l : List UInt32) : ∀ S : AS Msg, abs (l.foldl AS.mark S) = l.foldl AS.mark (abs S) := by
  induction l with
  | nil => intro S; rfl
  | cons t l ih => intro S; rw [List.foldl_cons, List.foldl_cons, ih, abs_mark]
theorem abs_drop1 (S : AS Msg) (c : UInt32) : abs (S.drop1 c) = (abs S).drop1 c := by
  unfold AS.drop1
  have e : (abs S).left c = S.left c := rfl
  rw [e]
  split
  · rw [abs_cutQ]; rfl
  · rfl
theorem abs_ack1 (S : AS Msg) (c : UInt32) (l : List UInt32) : abs (S.ack1 c l) = (abs S).ack1 c l := by
  unfold AS.ack1
  have e : (abs S).left c = S.left c := rfl
  rw [e, ← abs_drop1, ← abs_marks]
  split <;> rfl
theorem abs_taken (S : AS Msg) (m : Msg) (now : Int) : abs (S.taken m now) = (abs S).taken (pm m) now := by
  unfold AS.taken abs; simp
end ac
end Go.Proofs.Ytomplpdeeomehaa

/- assoc: numbers from bytes; the document's Number, walked. -/
namespace Go.Proofs.Ytomplpdeeomehaa
set_option linter.unusedVariables false
set_option linter.unusedSimpArgs false
open Go.RowKit
namespace ac
open rd (num num1)
namespace FxAsN
set_option maxRecDepth 100000
theorem sc5 : Program.isSc Try.prog 5 = true := by kernel_rfl
theorem sl23 : Program.slI Try.prog 23 = some 1 := by kernel_rfl
end FxAsN
open FxAsN
theorem or_add (x y : Nat) (h : y < 256) : x * 256 ||| y = x * 256 + y := by
  have := Nat.two_pow_add_eq_or_of_lt (i := 8) h x
  rw [Nat.mul_comm x 256, this]
theorem num4 (x y z u : UInt8) : (num [x, y, z, u]).toNat = ((x.toNat * 256 + y.toNat) * 256 + z.toNat) * 256 + u.toNat := by
  have hx := x.toNat_lt; have hy := y.toNat_lt; have hz := z.toNat_lt; have hu := u.toNat_lt
  have step : ∀ (n : Nat) (c : UInt8), n < 16777216 → (num1 (UInt32.ofNat n) c) = UInt32.ofNat (n * 256 + c.toNat) := fun n c hn => by
    have hc := c.toNat_lt
    apply UInt32.toNat_inj.1
    rw [UInt32.toNat_ofNat_of_lt' (by show _ < 4294967296; omega)]
    simp only [num1, shl32]
    rw [UInt32.toNat_or, UInt32.toNat_ofNat_of_lt' (show n < 4294967296 by omega)]
    simp
    rw [show n * 256 % 4294967296 = n * 256 by omega, or_add _ _ (by omega)]
  have e : num [x, y, z, u] = UInt32.ofNat (((x.toNat * 256 + y.toNat) * 256 + z.toNat) * 256 + u.toNat) := by
    simp only [num, List.foldl_cons, List.foldl_nil]
    rw [show (0 : UInt32) = UInt32.ofNat 0 from rfl, step 0 x (by omega), step _ y (by omega), step _ z (by omega), step _ u (by omega)]
    rw [Nat.zero_mul, Nat.zero_add]
  rw [e, UInt32.toNat_ofNat_of_lt' (by show _ < 4294967296; omega)]
def num641 (x : UInt64) (c : UInt8) : UInt64 := shl64 x 8 ||| c.toUInt64
def num64 (l : List UInt8) : UInt64 := l.foldl num641 0
theorem num64_s (l : List UInt8) (k : Nat) (h : k < l.length) : num64 (l.take (k + 1)) = num641 (num64 (l.take k)) (l.getD k 0) := by
  rw [num64, List.take_add_one, List.foldl_append, List.getElem?_eq_getElem h, List.getD_eq_getElem?_getD, List.getElem?_eq_getElem h]
  rfl
theorem step64 (n : Nat) (c : UInt8) (hn : n < 16777216) : num641 (UInt64.ofNat n) c = UInt64.ofNat (n * 256 + c.toNat) := by
  have hc := c.toNat_lt
  apply UInt64.toNat_inj.1
  rw [UInt64.toNat_ofNat_of_lt' (by show _ < 18446744073709551616; omega)]
  simp only [num641, shl64]
  rw [UInt64.toNat_or, UInt64.toNat_ofNat_of_lt' (show n < 18446744073709551616 by omega)]
  simp
  rw [show n * 256 % 18446744073709551616 = n * 256 by omega, or_add _ _ (by omega)]
theorem num64_4 (x y z u : UInt8) : (num64 [x, y, z, u]).toNat = (num [x, y, z, u]).toNat := by
  have hx := x.toNat_lt; have hy := y.toNat_lt; have hz := z.toNat_lt; have hu := u.toNat_lt
  have e : num64 [x, y, z, u] = UInt64.ofNat (((x.toNat * 256 + y.toNat) * 256 + z.toNat) * 256 + u.toNat) := by
    simp only [num64, List.foldl_cons, List.foldl_nil]
    rw [show (0 : UInt64) = UInt64.ofNat 0 from rfl, step64 0 x (by omega), step64 _ y (by omega), step64 _ z (by omega), step64 _ u (by omega), Nat.zero_mul, Nat.zero_add]
  rw [num4, e, UInt64.toNat_ofNat_of_lt' (by show _ < 18446744073709551616; omega)]
theorem Number_gen (A : SA) (a : Option Addr) (n cap : Nat) (l : List UInt8) (hA : Reads A 1 (.slice a n cap) n (l.map v8)) (hn : l.length = n) (L : List SA) :
    Fn Try.prog 13 [.slice a n cap] (A :: L) (fun v L' => v = v64 (num64 l) ∧ L' = A :: L) := by
  refine Fn.of (N := 20) Try.func13 rfl rfl ?_
  intro Xh
  refine TC.know (reads_cap hA (a := a) (n := n) (cap := cap) (cs := l.map v8) inn) ?_
  rintro ⟨hc1, hc2, -, -⟩
  simp only [maxLen] at hc2
  refine TC.seq ?_
  refine TC.region ?_
  refine TL.val rfl rfl rfl (Y.assign rfl rfl) ?_
  refine TL.nil ?_
  refine TQ.next ?_
  refine TC.seq ?_
  refine TC.region ?_
  refine TL.val rfl rfl rfl (Y.assign rfl rfl) ?_
  refine TL.nil ?_
  refine TQ.next ?_
  refine TC.seq ?_
  refine TC.seq ?_
  refine TC.region ?_
  refine TL.val rfl rfl rfl (Y.move rfl rfl) ?_
  refine TL.val rfl rfl rfl (Y.len rfl Try.underlying23 rfl) ?_
  refine TL.val rfl rfl rfl (Y.move rfl rfl) ?_
  refine TL.nil ?_
  refine TQ.next ?_
  refine TC.block ?_
  refine TC.loopF (ι := Nat) [] (fun k => k ≤ n) (fun k => [(7, some (vN k)), (3, some (v64 (num64 (l.take k))))]) (fun k => []) (fun k => n - k) (0) (by omega) ⟨rfl, rfl, trivial⟩ Pulls.nil ?_
  rintro k hk F' L' rfl hL'
  simp only [List.cons_append, List.nil_append] at hL'
  subst hL'
  refine TC.seq ?_
  refine TC.region ?_
  refine TL.val rfl rfl rfl (Y.bin rfl rfl rfl (br_ltN)) ?_
  refine TL.nil ?_
  refine TQ.next ?_
  refine TC.seq ?_
  refine TC.cond rfl (fun c0 => ?_) (fun c0 => ?_)
  · try simp only [decide_eq_true_eq, decide_eq_false_iff_not, Bool.not_eq_true', Bool.not_eq_false', Bool.and_eq_true, Bool.or_eq_true, Nat.not_lt, Nat.not_le, beq_iff_eq, bne_iff_ne] at c0
    refine TC.skip ?_
    refine TQ.next ?_
    refine TC.seq ?_
    refine TC.block ?_
    refine TC.seq ?_
    refine TC.region ?_
    refine TL.val rfl rfl rfl (Y.move rfl rfl) ?_
    refine TL.val rfl rfl rfl (Y.assign rfl rfl) ?_
    refine TL.nil ?_
    refine TQ.next ?_
    refine TC.know (reads_some hA (a := a) (n := n) (cap := cap) (cs := l.map v8) inn (by omega) (by decide)) ?_
    rintro ⟨g, off, rfl⟩
    obtain ⟨x, hx, -⟩ := getS (l := l) (i := k) (by omega)
    have hd : l.getD k 0 = x := by rw [List.getD_eq_getElem?_getD, hx]; rfl
    refine TC.region ?_
    refine TL.val rfl rfl rfl (Y.move rfl rfl) ?_
    refine TL.val rfl rfl rfl (Y.bin rfl rfl rfl (br_shl64 (n := 8))) ?_
    refine TL.val rfl rfl rfl (Y.move rfl rfl) ?_
    refine TL.val rfl rfl rfl (Y.move rfl rfl) ?_
    refine TL.val rfl rfl rfl (by first | exact Y.indexSlB rfl sl23 rfl rfl (by omega) nqq | exact Y.indexSl rfl sl23 rfl rfl (by omega) nqq) ?_
    refine TL.val rfl rfl rfl (Y.load rfl sc5 rfl (Cel.atS (l := l) hA inn hx rfl)) ?_
    refine TL.val rfl rfl rfl (Y.conv rfl Try.underlying5 Try.underlying32 rfl (cv_8_64)) ?_
    refine TL.val rfl rfl rfl (Y.bin rfl rfl rfl (br_or64)) ?_
    refine TL.as (v64 (num64 (l.take (k + 1)))) (by (rw [num64_s l k (by omega), hd]; rfl)) ?_
    refine TL.val rfl rfl rfl (Y.assign rfl rfl) ?_
    refine TL.nil ?_
    refine TQ.block_normal ?_
    refine TQ.next ?_
    refine TC.region ?_
    refine TL.val rfl rfl rfl (Y.bin rfl rfl rfl (br_addN (n := 1) (by omega))) ?_
    refine TL.val rfl rfl rfl (Y.move rfl rfl) ?_
    refine TL.nil ?_
    refine TQ.loopF (k + 1) (by omega) (by omega) ⟨rfl, rfl, trivial⟩ (by (repeat first | apply Grow.refl | apply Grow.step | apply Grow.app)) ?_ ?_ ?_
    · kernel_rfl
    · rfl
    · simp only [List.cons_append, List.nil_append]
      exact ett
  · try simp only [decide_eq_true_eq, decide_eq_false_iff_not, Bool.not_eq_true', Bool.not_eq_false', Bool.and_eq_true, Bool.or_eq_true, Nat.not_lt, Nat.not_le, beq_iff_eq, bne_iff_ne] at c0
    refine TC.exit ?_
    refine TQ.then_exit ?_
    refine TQ.then_exit ?_
    refine TQ.block_exit ?_
    refine TQ.next ?_
    refine TC.seq ?_
    obtain rfl : k = l.length := by omega
    rw [List.take_length]
    refine TC.region ?_
    refine TL.val rfl rfl rfl (Y.move rfl rfl) ?_
    refine TL.val rfl rfl rfl (Y.assign rfl rfl) ?_
    refine TL.nil ?_
    refine TQ.next ?_
    refine TC.ret ?_
    refine TQ.retE (res1 rfl rfl) (⟨rfl, rfl⟩) ?_
    exact ett
/-- four bytes of a list -/
theorem four {l : List UInt8} {k : Nat} (h : k + 4 ≤ l.length) : ∃ x y z u, (l.drop k).take 4 = [x, y, z, u] ∧ l[k]? = some x := by
  have hd : 4 ≤ (l.drop k).length := by rw [List.length_drop]; omega
  have h0 : (l.drop k)[0]? = l[k]? := by simp
  rcases hl : l.drop k with _ | ⟨x, _ | ⟨y, _ | ⟨z, _ | ⟨u, r⟩⟩⟩⟩ <;> rw [hl] at hd h0 <;> simp at hd
  exact ⟨x, y, z, u, rfl, by rw [← h0]; rfl⟩
theorem kind_byte {l : List UInt8} (h : 8 ≤ l.length) {k : UInt32} (hk : shr32 (n32 l 4) 24 = k) : ∃ x, l[4]? = some x ∧ x.toNat = k.toNat := by
  obtain ⟨x, y, z, u, h1, h2⟩ := four (l := l) (k := 4) (by omega)
  refine ⟨x, h2, ?_⟩
  have hx := x.toNat_lt; have hy := y.toNat_lt; have hz := z.toNat_lt; have hu := u.toNat_lt
  rw [← hk, n32, h1, shr32, num4, UInt32.toNat_ofNat_of_lt' (by show _ < 4294967296; omega)]
  omega
end ac
end Go.Proofs.Ytomplpdeeomehaa

/- Arguments that are data meet the rows. No program is named. -/
namespace Go.Proofs.Ytomplpdeeomehaa
set_option linter.unusedVariables false
set_option linter.unusedSimpArgs false
open Go.ChangeShapes Go.WideShapes Go.ChangeAt Go.RowKit
section
variable {H : Type} {enc : TypeId × Value → H} {P : Program} {W : World} {base : Nat} {t e : TypeId} {v : Value} {d : DataW H} {p : List MemPlace} {ts : List TypeId} {ds : List (DataW H)}
theorem open_dat {α : Type} [Dat α] {Bd : α → Prop} (hT : DatT P t α Bd) (j : Nat) (k : DataW.Trod enc P W 0 (fun _ => true) true t v d p)
    (hsz : (DataW.weightsEach P ts ds).all (· ≤ reachBytes) = true) (ht : ts[j]? = some t) (hd : ds[j]? = some d) : ∃ x : α, v.cells.toList = Dat.c x ∧ RdAll W (Dat.g x) ∧ Bd x :=
  hT H enc W _ (Opn.top k hsz ht hd)
theorem open_struct {α : Type} [Dat α] {Bd : α → Prop} {fs : Array Field} (hT : DatT P t α Bd) (hu : P.underlying t = some (.struct fs)) (j : Nat) (o : Value.okWide P W .any base t v) (k : DataW.Trod enc P W 0 (fun _ => true) true t v d p)
    (hsz : (DataW.weightsEach P ts ds).all (· ≤ reachBytes) = true) (ht : ts[j]? = some t) (hd : ds[j]? = some d) : ∃ x : α, v = .agg (Dat.c x).toArray ∧ RdAll W (Dat.g x) ∧ Bd x := by
  unfold Value.okWide at o
  simp only [hu] at o
  obtain ⟨cs, rfl, _⟩ := o
  obtain ⟨x, h1, h2⟩ := open_dat hT j k hsz ht hd
  exact ⟨x, by simp only [Value.cells] at h1; rw [← h1], h2⟩
theorem open_slice {α : Type} [Dat α] {Bd : Sl α → Prop} (hT : DatT P t (Sl α) Bd) (hu : P.underlying t = some (.slice e)) (j : Nat) (o : Value.okWide P W .any base t v) (k : DataW.Trod enc P W 0 (fun _ => true) true t v d p)
    (hsz : (DataW.weightsEach P ts ds).all (· ≤ reachBytes) = true) (ht : ts[j]? = some t) (hd : ds[j]? = some d) : ∃ x : Sl α, v = x.v ∧ RdAll W (Dat.g x) ∧ Bd x := by
  obtain ⟨a, len, cap, rfl⟩ := okWide_slice hu o
  obtain ⟨x, h1, h2⟩ := open_dat hT j k hsz ht hd
  refine ⟨x, ?_, h2⟩
  have h1 : [Value.slice a len cap] = [x.v] := h1
  exact List.head_eq_of_cons_eq h1
theorem DatT.bytes (ht : P.underlying t = some (.slice e)) (he : P.underlying e = some (.int .u8)) (hc : P.cellsOf e = 1) (hB : P.bytesOf e = 1) : DatT P t Bs (fun s => s.l.length ≤ reachBytes) := fun H enc W cs ho => by
  obtain ⟨x, h1, h2, h3⟩ := DatT.slice (α := UInt8) ht hc hB (DatT.u8 he) H enc W cs ho
  exact ⟨x, h1, h2, by simpa using h3.1⟩
theorem SA.dat_arg {α : Type} [Dat α] {x : α} (h : RdAll W (Dat.g x)) : ∃ R, (SA.dat x).p W (fun _ => False) R ∧ ∀ k, R k → k < W.heap.size := h.st
theorem in_last {A : SA} : ∀ As : List SA, In A (As ++ [A])
  | [] => In.here
  | _ :: As => In.there (in_last As)
/-- the statement's walk meets the row: its arguments are such data, and stay -/
theorem Fn.topD {f : FuncId} {args : List Value} {As : List SA} (h : Fn P f args (As ++ [SA.old W]) (fun v L' => v = .bool true ∧ L' = As ++ [SA.old W])) (hA : ∀ A, In A As → ∃ R, A.p W (fun _ => False) R ∧ ∀ k, R k → k < W.heap.size) :
    Calls P f args.toArray W fun e w' => e = .returned (.bool true) ∧ Fr [] W w' :=
  Fn.top (As := As) (h.mono fun v L' ⟨e1, e2⟩ => ⟨L', Ent.refl, e1, e2 ▸ in_last As⟩) hA
end
end Go.Proofs.Ytomplpdeeomehaa

/- assoc: awake; nil sides. -/
namespace Go.Proofs.Ytomplpdeeomehaa
set_option linter.unusedVariables false
set_option linter.unusedSimpArgs false
open Go.RowKit
namespace ac
open wr (be16 be32)
namespace FxAsT
set_option maxRecDepth 100000
theorem pl51 : Program.places Try.prog 51 = some [(0, 1), (1, 1), (2, 1)] := by kernel_rfl
theorem sc5 : Program.isSc Try.prog 5 = true := by kernel_rfl
theorem sl23 : Program.slI Try.prog 23 = some 1 := by kernel_rfl
theorem zc51 : Program.zeroC Try.prog 51 = some #[.int .u16 0, .int .u32 0, .slice none 0 0] := by kernel_rfl
end FxAsT
open FxAsT
set_option maxHeartbeats 1000000 in
--REG rostrum/rostrumlaw20.awake : _ _ ⟨rfl, rfl⟩ => (ac.awake_fn _)
theorem awake_fn (L : List SA) : Fn Try.prog 10 [] L (fun v L' => v = .bool true ∧ L' = L) := by
  refine Fn.of (N := 45) Try.func10 rfl rfl ?_
  intro Xh
  refine TC.seq ?_
  refine TC.region ?_
  refine TL.val rfl rfl rfl (Y.assign rfl rfl) ?_
  refine TL.nil ?_
  refine TQ.next ?_
  refine TC.seq ?_
  refine TC.region ?_
  refine TL.to (Ent.trans (Ent.nilOwn 0 1) Ent.freeze) ?_
  refine TL.eff rfl rfl rfl (X.call rfl Try.func11 (by kernel_rfl) rfl rfl (Fn.preE (by repeat first | (with_reducible apply Ent.refl) | (apply Ent.cons; case h => first | (with_reducible (repeat first | apply Pull.here | apply Pull.there); done) | (repeat first | apply Pull.here | apply Pull.there))) (New_fn 5 9 none 0 0 [] rfl (by decide) _))) ?_
  rintro _ _ ⟨b6, p6, rfl, rfl⟩
  refine TL.val rfl rfl rfl (Y.assign rfl rfl) ?_
  refine TL.nil ?_
  refine TQ.next ?_
  refine TC.seq ?_
  refine TC.region ?_
  refine TL.val rfl rfl rfl (Y.move rfl rfl) ?_
  refine TL.eff rfl rfl rfl (X.call rfl Try.func23 (by kernel_rfl) rfl rfl (Fn.preE (by repeat first | (with_reducible apply Ent.refl) | (apply Ent.cons; case h => first | (with_reducible (repeat first | apply Pull.here | apply Pull.there); done) | (repeat first | apply Pull.here | apply Pull.there))) (Start_yes b6 p6 (newS 5 9 []) 0 rfl _))) ?_
  rintro _ _ ⟨wa, wc, ha, hc, rfl, rfl⟩
  refine TL.val rfl rfl rfl (Y.move rfl rfl) ?_
  refine TL.val rfl rfl rfl (Y.extract rfl rfl rfl) ?_
  refine TL.as (.slice wa 16 wc) (by rfl) ?_
  refine TL.val rfl rfl rfl (Y.extract rfl rfl rfl) ?_
  refine TL.as (vN 0) (by rfl) ?_
  refine TL.val rfl rfl rfl (Y.assign rfl rfl) ?_
  refine TL.val rfl rfl rfl (Y.assign rfl rfl) ?_
  refine TL.nil ?_
  refine TQ.next ?_
  refine TC.seq ?_
  refine TC.know (owns_some (a := wa) (n := 16) inn (by omega)) ?_
  rintro ⟨g, off, rfl⟩
  refine TC.region ?_
  refine TL.val rfl rfl rfl (Y.move rfl rfl) ?_
  refine TL.eff rfl rfl rfl (X.call rfl Try.func23 (by kernel_rfl) rfl rfl (Fn.preE (by repeat first | (with_reducible apply Ent.refl) | (apply Ent.cons; case h => first | (with_reducible (repeat first | apply Pull.here | apply Pull.there); done) | (repeat first | apply Pull.here | apply Pull.there))) (Start_no b6 { p6 with ha := ha, hc := hc } ((newS 5 9 []).started 0) 0 (by decide) _))) ?_
  rintro _ _ ⟨rfl, rfl⟩
  refine TL.val rfl rfl rfl (Y.move rfl rfl) ?_
  refine TL.val rfl rfl rfl (Y.extract rfl rfl rfl) ?_
  refine TL.val rfl rfl rfl (Y.extract rfl rfl rfl) ?_
  refine TL.as (vN 9) (by rfl) ?_
  refine TL.val rfl rfl rfl (Y.assign rfl rfl) ?_
  refine TL.val rfl rfl rfl (Y.assign rfl rfl) ?_
  refine TL.nil ?_
  refine TQ.next ?_
  refine TC.seq ?_
  refine TC.region ?_
  refine TL.val rfl rfl rfl (Y.move rfl rfl) ?_
  refine TL.val rfl rfl rfl (Y.bin rfl rfl rfl (br_eqN (n := 0))) ?_
  refine TL.is true (by first | rfl | (simp only [decide_eq_true_eq, decide_eq_false_iff_not, Bool.not_eq_true', Bool.not_eq_false', Bool.not_eq_eq_eq_not, Bool.not_true, Bool.not_false, Nat.not_lt, Nat.not_le]; omega) | (simp [*]; done) | (simp; omega)) ?_
  refine TL.val rfl rfl rfl (Y.move rfl rfl) ?_
  refine TL.valG rfl rfl rfl (Y.move rfl rfl) ?_
  refine TL.valG rfl rfl rfl (Y.bin rfl rfl rfl (br_eqN (n := 9))) ?_
  refine TL.is true (by first | rfl | (simp only [decide_eq_true_eq, decide_eq_false_iff_not, Bool.not_eq_true', Bool.not_eq_false', Bool.not_eq_eq_eq_not, Bool.not_true, Bool.not_false, Nat.not_lt, Nat.not_le]; omega) | (simp [*]; done) | (simp; omega)) ?_
  refine TL.val rfl rfl rfl (Y.pick_t rfl rfl rfl) ?_
  refine TL.val rfl rfl rfl (Y.move rfl rfl) ?_
  refine TL.valG rfl rfl rfl (Y.move rfl rfl) ?_
  refine TL.valG rfl rfl rfl (Y.len rfl Try.underlying23 rfl) ?_
  refine TL.valG rfl rfl rfl (Y.bin rfl rfl rfl (br_eqN (n := 16))) ?_
  refine TL.is true (by first | rfl | (simp only [decide_eq_true_eq, decide_eq_false_iff_not, Bool.not_eq_true', Bool.not_eq_false', Bool.not_eq_eq_eq_not, Bool.not_true, Bool.not_false, Nat.not_lt, Nat.not_le]; omega) | (simp [*]; done) | (simp; omega)) ?_
  refine TL.val rfl rfl rfl (Y.pick_t rfl rfl rfl) ?_
  refine TL.val rfl rfl rfl (Y.move rfl rfl) ?_
  refine TL.valG rfl rfl rfl (Y.move rfl rfl) ?_
  refine TL.valG rfl rfl rfl (by first | exact Y.indexSlB (j := 4) rfl sl23 rfl rfl (by omega) nqq | exact Y.indexSl (j := 4) rfl sl23 rfl rfl (by omega) nqq) ?_
  refine TL.valG rfl rfl rfl (Y.load rfl sc5 rfl cel8) ?_
  refine TL.valG rfl rfl rfl (Y.bin rfl rfl rfl (br_eq8 (y := 1))) ?_
  refine TL.is true (by first | rfl | (simp only [decide_eq_true_eq, decide_eq_false_iff_not, Bool.not_eq_true', Bool.not_eq_false', Bool.not_eq_eq_eq_not, Bool.not_true, Bool.not_false, Nat.not_lt, Nat.not_le]; omega) | (simp [*]; done) | (simp; omega)) ?_
  refine TL.val rfl rfl rfl (Y.pick_t rfl rfl rfl) ?_
  refine TL.val rfl rfl rfl (Y.move rfl rfl) ?_
  refine TL.valG rfl rfl rfl (Y.move rfl rfl) ?_
  refine TL.valG rfl rfl rfl (by first | exact Y.indexSlB (j := 11) rfl sl23 rfl rfl (by omega) nqq | exact Y.indexSl (j := 11) rfl sl23 rfl rfl (by omega) nqq) ?_
  refine TL.valG rfl rfl rfl (Y.load rfl sc5 rfl cel8) ?_
  refine TL.valG rfl rfl rfl (Y.bin rfl rfl rfl (br_eq8 (y := 5))) ?_
  refine TL.is true (by first | rfl | (simp only [decide_eq_true_eq, decide_eq_false_iff_not, Bool.not_eq_true', Bool.not_eq_false', Bool.not_eq_eq_eq_not, Bool.not_true, Bool.not_false, Nat.not_lt, Nat.not_le]; omega) | (simp [*]; done) | (simp; omega)) ?_
  refine TL.val rfl rfl rfl (Y.pick_t rfl rfl rfl) ?_
  refine TL.val rfl rfl rfl (Y.move rfl rfl) ?_
  refine TL.valG rfl rfl rfl (Y.move rfl rfl) ?_
  refine TL.effG rfl rfl rfl (X.call rfl Try.func14 (by kernel_rfl) rfl rfl (Fn.preE (by repeat first | (with_reducible apply Ent.refl) | (apply Ent.cons; case h => first | (with_reducible (repeat first | apply Pull.here | apply Pull.there); done) | (repeat first | apply Pull.here | apply Pull.there))) (State_fn b6 { p6 with ha := ha, hc := hc } ((newS 5 9 []).started 0) _))) ?_
  rintro _ _ ⟨rfl, rfl⟩
  refine TL.valG rfl rfl rfl (Y.bin rfl rfl rfl (br_eqN (n := 1))) ?_
  refine TL.is true (by first | rfl | (simp only [decide_eq_true_eq, decide_eq_false_iff_not, Bool.not_eq_true', Bool.not_eq_false', Bool.not_eq_eq_eq_not, Bool.not_true, Bool.not_false, Nat.not_lt, Nat.not_le]; omega) | (simp [*]; done) | (simp; omega)) ?_
  refine TL.val rfl rfl rfl (Y.pick_t rfl rfl rfl) ?_
  refine TL.val rfl rfl rfl (Y.assign rfl rfl) ?_
  refine TL.nil ?_
  refine TQ.next ?_
  refine TC.ret ?_
  refine TQ.retE (res1 rfl rfl) (⟨rfl, rfl⟩) ?_
  exact ett
theorem nil_fn (a : Option Addr) (n cap : Nat) (b : List UInt8) (hn : b.length = n) (now : Int) (L : List SA) :
    Fn Try.prog 9 [.slice a n cap, vI now] (SA.rds 1 (.slice a n cap) n (b.map v8) :: L) (fun v L' => v = .bool true ∧ L' = SA.rds 1 (.slice a n cap) n (b.map v8) :: L) := by
  refine Fn.of (N := 69) Try.func9 rfl rfl ?_
  intro Xh
  refine TC.seq ?_
  refine TC.region ?_
  refine TL.val rfl rfl rfl (Y.assign rfl rfl) ?_
  refine TL.nil ?_
  refine TQ.next ?_
  refine TC.seq ?_
  refine TC.seq ?_
  refine TC.region ?_
  refine TL.eff rfl rfl rfl (X.call rfl Try.func10 (by kernel_rfl) rfl rfl (Fn.preE (by repeat first | (with_reducible apply Ent.refl) | (apply Ent.cons; case h => first | (with_reducible (repeat first | apply Pull.here | apply Pull.there); done) | (repeat first | apply Pull.here | apply Pull.there))) (ac.awake_fn _))) ?_
  rintro _ _ ⟨rfl, rfl⟩
  refine TL.val rfl rfl rfl (Y.not rfl rfl) ?_
  refine TL.nil ?_
  refine TQ.next ?_
  refine TC.cond_f rfl ?_
  refine TC.skip ?_
  refine TQ.next ?_
  refine TC.seq ?_
  refine TC.region ?_
  refine TL.val rfl rfl rfl (Y.assign rfl rfl) ?_
  refine TL.nil ?_
  refine TQ.next ?_
  refine TC.seq ?_
  refine TC.region ?_
  refine TL.val rfl rfl rfl (Y.move rfl rfl) ?_
  refine TL.val rfl rfl rfl (Y.move rfl rfl) ?_
  refine TL.eff rfl rfl rfl (X.call rfl Try.func23 (by kernel_rfl) rfl rfl (Fn.preE (by repeat first | (with_reducible apply Ent.refl) | (apply Ent.cons; case h => first | (with_reducible (repeat first | apply Pull.here | apply Pull.there); done) | (repeat first | apply Pull.here | apply Pull.there))) (Start_nil _ _))) ?_
  rintro _ _ ⟨rfl, rfl⟩
  refine TL.val rfl rfl rfl (Y.move rfl rfl) ?_
  refine TL.val rfl rfl rfl (Y.extract rfl rfl rfl) ?_
  refine TL.val rfl rfl rfl (Y.extract rfl rfl rfl) ?_
  refine TL.val rfl rfl rfl (Y.assign rfl rfl) ?_
  refine TL.val rfl rfl rfl (Y.assign rfl rfl) ?_
  refine TL.nil ?_
  refine TQ.next ?_
  refine TC.seq ?_
  refine TC.region ?_
  refine TL.val rfl rfl rfl (Y.move rfl rfl) ?_
  refine TL.val rfl rfl rfl (Y.move rfl rfl) ?_
  refine TL.val rfl rfl rfl (Y.move rfl rfl) ?_
  refine TL.eff rfl rfl rfl (X.call rfl Try.func12 (by kernel_rfl) rfl rfl (Fn.preE (by repeat first | (with_reducible apply Ent.refl) | (apply Ent.cons; case h => first | (with_reducible (repeat first | apply Pull.here | apply Pull.there); done) | (repeat first | apply Pull.here | apply Pull.there))) (Handle_nil _ _ _))) ?_
  rintro _ _ ⟨rfl, rfl⟩
  refine TL.val rfl rfl rfl (Y.move rfl rfl) ?_
  refine TL.val rfl rfl rfl (Y.extract rfl rfl rfl) ?_
  refine TL.val rfl rfl rfl (Y.extract rfl rfl rfl) ?_
  refine TL.val rfl rfl rfl (Y.extract rfl rfl rfl) ?_
  refine TL.val rfl rfl rfl (Y.assign rfl rfl) ?_
  refine TL.val rfl rfl rfl (Y.assign rfl rfl) ?_
  refine TL.val rfl rfl rfl (Y.assign rfl rfl) ?_
  refine TL.nil ?_
  refine TQ.next ?_
  refine TC.seq ?_
  refine TC.region ?_
  refine TL.val rfl rfl rfl (Y.move rfl rfl) ?_
  refine TL.val rfl rfl rfl (Y.buildS rfl rfl pl51 zc51 rfl) ?_
  refine TL.val rfl rfl rfl (Y.move rfl rfl) ?_
  refine TL.eff rfl rfl rfl (X.call rfl Try.func19 (by kernel_rfl) rfl rfl (Fn.preE (by repeat first | (with_reducible apply Ent.refl) | (apply Ent.cons; case h => first | (with_reducible (repeat first | apply Pull.here | apply Pull.there); done) | (repeat first | apply Pull.here | apply Pull.there))) (Send_nil _ _ _))) ?_
  rintro _ _ ⟨rfl, rfl⟩
  refine TL.val rfl rfl rfl (Y.move rfl rfl) ?_
  refine TL.val rfl rfl rfl (Y.extract rfl rfl rfl) ?_
  refine TL.val rfl rfl rfl (Y.extract rfl rfl rfl) ?_
  refine TL.val rfl rfl rfl (Y.assign rfl rfl) ?_
  refine TL.val rfl rfl rfl (Y.assign rfl rfl) ?_
  refine TL.nil ?_
  refine TQ.next ?_
  refine TC.seq ?_
  refine TC.region ?_
  refine TL.val rfl rfl rfl (Y.move rfl rfl) ?_
  refine TL.eff rfl rfl rfl (X.call rfl Try.func14 (by kernel_rfl) rfl rfl (Fn.preE (by repeat first | (with_reducible apply Ent.refl) | (apply Ent.cons; case h => first | (with_reducible (repeat first | apply Pull.here | apply Pull.there); done) | (repeat first | apply Pull.here | apply Pull.there))) (State_nil _))) ?_
  rintro _ _ ⟨rfl, rfl⟩
  refine TL.val rfl rfl rfl (Y.bin rfl rfl rfl (br_eqN (n := 0))) ?_
  refine TL.is true (by first | rfl | (simp only [decide_eq_true_eq, decide_eq_false_iff_not, Bool.not_eq_true', Bool.not_eq_false', Bool.not_eq_eq_eq_not, Bool.not_true, Bool.not_false, Nat.not_lt, Nat.not_le]; omega) | (simp [*]; done) | (simp; omega)) ?_
  refine TL.val rfl rfl rfl (Y.move rfl rfl) ?_
  refine TL.valG rfl rfl rfl (Y.move rfl rfl) ?_
  refine TL.effG rfl rfl rfl (X.call rfl Try.func22 (by kernel_rfl) rfl rfl (Fn.preE (by repeat first | (with_reducible apply Ent.refl) | (apply Ent.cons; case h => first | (with_reducible (repeat first | apply Pull.here | apply Pull.there); done) | (repeat first | apply Pull.here | apply Pull.there))) (Waiting_nil _))) ?_
  rintro _ _ ⟨rfl, rfl⟩
  refine TL.valG rfl rfl rfl (Y.bin rfl rfl rfl (br_eqN (n := 0))) ?_
  refine TL.is true (by first | rfl | (simp only [decide_eq_true_eq, decide_eq_false_iff_not, Bool.not_eq_true', Bool.not_eq_false', Bool.not_eq_eq_eq_not, Bool.not_true, Bool.not_false, Nat.not_lt, Nat.not_le]; omega) | (simp [*]; done) | (simp; omega)) ?_
  refine TL.val rfl rfl rfl (Y.pick_t rfl rfl rfl) ?_
  refine TL.val rfl rfl rfl (Y.move rfl rfl) ?_
  refine TL.valG rfl rfl rfl (Y.move rfl rfl) ?_
  refine TL.valG rfl rfl rfl (Y.bin rfl rfl rfl (br_eqN (n := 1))) ?_
  refine TL.is true (by first | rfl | (simp only [decide_eq_true_eq, decide_eq_false_iff_not, Bool.not_eq_true', Bool.not_eq_false', Bool.not_eq_eq_eq_not, Bool.not_true, Bool.not_false, Nat.not_lt, Nat.not_le]; omega) | (simp [*]; done) | (simp; omega)) ?_
  refine TL.val rfl rfl rfl (Y.pick_t rfl rfl rfl) ?_
  refine TL.val rfl rfl rfl (Y.move rfl rfl) ?_
  refine TL.valG rfl rfl rfl (Y.move rfl rfl) ?_
  refine TL.valG rfl rfl rfl (Y.bin rfl rfl rfl (br_eqN (n := 1))) ?_
  refine TL.is true (by first | rfl | (simp only [decide_eq_true_eq, decide_eq_false_iff_not, Bool.not_eq_true', Bool.not_eq_false', Bool.not_eq_eq_eq_not, Bool.not_true, Bool.not_false, Nat.not_lt, Nat.not_le]; omega) | (simp [*]; done) | (simp; omega)) ?_
  refine TL.val rfl rfl rfl (Y.pick_t rfl rfl rfl) ?_
  refine TL.val rfl rfl rfl (Y.move rfl rfl) ?_
  refine TL.valG rfl rfl rfl (Y.move rfl rfl) ?_
  refine TL.valG rfl rfl rfl (Y.bin rfl rfl rfl (br_eqN (n := 1))) ?_
  refine TL.is true (by first | rfl | (simp only [decide_eq_true_eq, decide_eq_false_iff_not, Bool.not_eq_true', Bool.not_eq_false', Bool.not_eq_eq_eq_not, Bool.not_true, Bool.not_false, Nat.not_lt, Nat.not_le]; omega) | (simp [*]; done) | (simp; omega)) ?_
  refine TL.val rfl rfl rfl (Y.pick_t rfl rfl rfl) ?_
  refine TL.val rfl rfl rfl (Y.move rfl rfl) ?_
  refine TL.valG rfl rfl rfl (Y.move rfl rfl) ?_
  refine TL.valG rfl rfl rfl (Y.move rfl rfl) ?_
  refine TL.effG rfl rfl rfl (X.call rfl Try.func20 (by kernel_rfl) rfl rfl (Fn.preE (by repeat first | (with_reducible apply Ent.refl) | (apply Ent.cons; case h => first | (with_reducible (repeat first | apply Pull.here | apply Pull.there); done) | (repeat first | apply Pull.here | apply Pull.there))) (Tick_nil _ _))) ?_
  rintro _ _ ⟨rfl, rfl⟩
  refine TL.valG rfl rfl rfl (Y.len rfl Try.underlying24 rfl) ?_
  refine TL.valG rfl rfl rfl (Y.bin rfl rfl rfl (br_eqN (n := 0))) ?_
  refine TL.is true (by first | rfl | (simp only [decide_eq_true_eq, decide_eq_false_iff_not, Bool.not_eq_true', Bool.not_eq_false', Bool.not_eq_eq_eq_not, Bool.not_true, Bool.not_false, Nat.not_lt, Nat.not_le]; omega) | (simp [*]; done) | (simp; omega)) ?_
  refine TL.val rfl rfl rfl (Y.pick_t rfl rfl rfl) ?_
  refine TL.val rfl rfl rfl (Y.move rfl rfl) ?_
  refine TL.valG rfl rfl rfl (Y.move rfl rfl) ?_
  refine TL.effG rfl rfl rfl (X.call rfl Try.func24 (by kernel_rfl) rfl rfl (Fn.preE (by repeat first | (with_reducible apply Ent.refl) | (apply Ent.cons; case h => first | (with_reducible (repeat first | apply Pull.here | apply Pull.there); done) | (repeat first | apply Pull.here | apply Pull.there))) (Abort_nil _))) ?_
  rintro _ _ ⟨rfl, rfl⟩
  refine TL.valG rfl rfl rfl (Y.len rfl Try.underlying23 rfl) ?_
  refine TL.valG rfl rfl rfl (Y.bin rfl rfl rfl (br_eqN (n := 0))) ?_
  refine TL.is true (by first | rfl | (simp only [decide_eq_true_eq, decide_eq_false_iff_not, Bool.not_eq_true', Bool.not_eq_false', Bool.not_eq_eq_eq_not, Bool.not_true, Bool.not_false, Nat.not_lt, Nat.not_le]; omega) | (simp [*]; done) | (simp; omega)) ?_
  refine TL.val rfl rfl rfl (Y.pick_t rfl rfl rfl) ?_
  refine TL.val rfl rfl rfl (Y.assign rfl rfl) ?_
  refine TL.nil ?_
  refine TQ.next ?_
  refine TC.ret ?_
  refine TQ.retE (res1 rfl rfl) (⟨rfl, rfl⟩) ?_
  exact ett
variable {H : Type} {enc : TypeId × Value → H} {W : World} {base : Nat}
set_option maxRecDepth 100000 in
theorem nil_open {v0 : Value} {d0 d1 : DataW H} {p0 : List MemPlace} {t : Int} (o0 : Value.okWide Try.prog W .any base 23 v0) (k0 : DataW.Trod enc Try.prog W 0 (fun _ => true) true 23 v0 d0 p0)
    (hsz : (DataW.weightsEach Try.prog ([23, 2] ++ []) ([d0, d1] ++ [])).all (· ≤ reachBytes) = true) :
    Calls Try.prog 9 #[v0, .int .i64 t] W fun e w' => e = .returned (.bool true) ∧ Fr [] W w' := by
  obtain ⟨a, cap, bs, rfl, h1, h2⟩ := open_bytes 0 o0 k0 hsz rfl rfl Try.underlying23 Try.underlying5 (by kernel_rfl) (by kernel_rfl)
  exact Fn.topD (As := [_]) (nil_fn a _ cap bs rfl t [SA.old W]) (fun A hA => by rw [hA.one]; exact h1.arg (by decide))
end ac
end Go.Proofs.Ytomplpdeeomehaa

/- assoc: Handle of an idle side; the statement on guards. -/
namespace Go.Proofs.Ytomplpdeeomehaa
set_option linter.unusedVariables false
set_option linter.unusedSimpArgs false
open Go.RowKit
namespace ac
open wr (be16 be32)
open rd (num)
--FACTS
theorem kinds {l : List UInt8} {kd : UInt32} (h : Formed l kd) : kd = 1 ∨ kd = 2 ∨ kd = 3 ∨ kd = 4 ∨ kd = 5 ∨ kd = 6 ∨ kd = 7 := by
  have h1 : kd.toNat < 256 := by
    rw [← h.kind, shr32, UInt32.toNat_ofNat_of_lt' (by have := (n32 l 4).toNat_lt; show _ < 4294967296; omega)]
    have := (n32 l 4).toNat_lt; omega
  have h2 : kd.toUInt8.toNat = kd.toNat := by simp; omega
  have key : ∀ j : UInt8, ∀ k : UInt32, j.toNat = k.toNat → kd.toUInt8 = j → kd = k := fun j k e h3 => UInt32.toNat_inj.1 (by rw [← h2, h3, e])
  have hf := h.fits
  unfold fitsB at hf
  split at hf
  · rename_i e; exact .inl (key 1 1 rfl e)
  split at hf
  · rename_i e; exact .inr (.inl (key 2 2 rfl e))
  split at hf
  · rename_i e; exact .inr (.inr (.inl (key 3 3 rfl e)))
  split at hf
  · rename_i e
    rcases e with e | e
    · exact .inr (.inr (.inr (.inl (key 4 4 rfl e))))
    · exact .inr (.inr (.inr (.inr (.inr (.inr (key 7 7 rfl e))))))
  split at hf
  · rename_i e; exact .inr (.inr (.inr (.inr (.inl (key 5 5 rfl e)))))
  split at hf
  · rename_i e; exact .inr (.inr (.inr (.inr (.inr (.inl (key 6 6 rfl e))))))
  · cases hf
theorem formed_or (l : List UInt8) (h8 : 8 ≤ l.length) : (n32 l 4 &&& 16777215 ≠ 0 ∨ fitsB (shr32 (n32 l 4) 24).toUInt8 (l.length - 8) = false ∨ decide (n32 l 0 = 0) ≠ decide (shr32 (n32 l 4) 24 = 1)) ∨ Formed l (shr32 (n32 l 4) 24) := by
  by_cases h1 : n32 l 4 &&& 16777215 = 0
  · by_cases h2 : fitsB (shr32 (n32 l 4) 24).toUInt8 (l.length - 8) = true
    · by_cases h3 : decide (n32 l 0 = 0) = decide (shr32 (n32 l 4) 24 = 1)
      · exact .inr ⟨h8, h1, rfl, h2, h3⟩
      · exact .inl (.inr (.inr h3))
    · exact .inl (.inr (.inl (by simpa using h2)))
  · exact .inl (.inl h1)
section
variable (b : Nat) (p : AP) (S : AS Msg) (a : Option Addr) (n cap : Nat) (l : List UInt8) (hn : l.length = n) (hl : n ≤ 140737488351232) (now : Int) (h0 : S.state = 0) (hsec : S.secret.length ≤ 140737488351232)
include hn hl h0 hsec
/-- a packet that has not its tag -/
theorem Handle_wrong (hw : ¬ (8 ≤ l.length ∧ n32 l 0 = S.tag)) (L : List SA) : Fn Try.prog 12 [pt b 0, .slice a n cap, vI now] (aB b p S :: SA.rds 1 (.slice a n cap) n (l.map v8) :: aS p (S.clocked now) :: L)
    (fun v L' => ∃ (o : Sl Bs) (e : Nat), v = .tuple #[o.v, .slice none 0 0, vN e] ∧ (e = 0 → l.length = 16 ∧ l[4]? = some 1 ∧ o.l.length = 1) ∧ e ≤ 9 ∧ L' = SA.dat o :: aB b p (S.clocked now) :: SA.rds 1 (.slice a n cap) n (l.map v8) :: aS p (S.clocked now) :: L) := by
  have no : ∀ (e : Nat), e ≠ 0 → e ≤ 9 → ∀ L2 : List SA, (∀ v L', (v = noOut e ∧ L' = L2) → ∃ L'', Ent L' L'' ∧ ∃ (o : Sl Bs) (e : Nat), v = .tuple #[o.v, .slice none 0 0, vN e] ∧ (e = 0 → l.length = 16 ∧ l[4]? = some 1 ∧ o.l.length = 1) ∧ e ≤ 9 ∧ L'' = SA.dat o :: L2) := by
    rintro e he h9 L2 v L' ⟨rfl, rfl⟩
    exact ⟨_, Ent.nilD (α := Bs), ⟨none, 0, []⟩, e, rfl, fun h => absurd h he, h9, rfl⟩
  by_cases h8 : 8 ≤ l.length
  · rcases formed_or l h8 with hb | hF
    · exact (H_form b p S a n cap l hn hl now h8 hb _).mono (no 2 (by decide) (by decide) _)
    · generalize hkd : shr32 (n32 l 4) 24 = kd at hF
      rcases kinds hF with rfl | hk
      · by_cases hz : n32 l 8 = 0
        · exact (H_zero1 b p S a n cap l hn hl now 1 hF rfl hz _).mono (no 2 (by decide) (by decide) _)
        · refine Fn.preE (L := aB b p S :: SA.rds 1 (.slice a n cap) n (l.map v8) :: aS p (S.clocked now) :: L) (by exact ett) ((H_init_yes b p S a n cap l hn hl now 1 hF rfl hz (.inl h0) hsec L).mono ?_)
          rintro v L' ⟨o, rfl, ho, rfl⟩
          have h16 : l.length = 16 := by have := hF.fits; simp [fitsB] at this; omega
          obtain ⟨x, hx, hx1⟩ := kind_byte h8 hkd
          refine ⟨_, by exact ett, o, 0, rfl, fun _ => ⟨h16, ?_, by have := congrArg List.length ho; simpa using this⟩, by decide, rfl⟩
          rw [hx, show x = 1 from UInt8.toNat_inj.1 hx1]
      · have ht : n32 l 0 ≠ S.tag := fun h => hw ⟨h8, h⟩
        rcases hk with rfl | hk
        · by_cases hz : n32 l 8 = 0
          · exact (H_zero2 b p S a n cap l hn hl now 2 hF rfl hz _).mono (no 2 (by decide) (by decide) _)
          · exact (H_auth2 b p S a n cap l hn hl now 2 hF rfl hz ht _).mono (no 4 (by decide) (by decide) _)
        · exact (H_auth b p S a n cap l hn hl now kd hF (by rcases hk with rfl | rfl | rfl | rfl | rfl <;> decide) ht _).mono (no 4 (by decide) (by decide) _)
  · exact (H_short b p S a n cap l hn hl now (by omega) _).mono (no 2 (by decide) (by decide) _)
/-- a packet that has its tag -/
theorem Handle_right (ht0 : S.tag ≠ 0) (h8 : 8 ≤ l.length) (ht : n32 l 0 = S.tag) (L : List SA) : Fn Try.prog 12 [pt b 0, .slice a n cap, vI now] (aB b p S :: SA.rds 1 (.slice a n cap) n (l.map v8) :: aS p (S.clocked now) :: L)
    (fun v L' => ∃ (o : Sl Bs) (e : Nat) (S' : AS Msg), v = .tuple #[o.v, .slice none 0 0, vN e] ∧ e ≤ 9 ∧ L' = SA.dat o :: aB b p S' :: SA.rds 1 (.slice a n cap) n (l.map v8) :: aS p (S.clocked now) :: L) := by
  have d3 : ∀ (e : Nat), e ≤ 9 → ∀ (S' : AS Msg) (L2 : List SA), Ent (aB b p S' :: L2) (aB b p S' :: SA.rds 1 (.slice a n cap) n (l.map v8) :: aS p (S.clocked now) :: L) → ∀ v L', (v = noOut e ∧ L' = aB b p S' :: L2) → ∃ L'', Ent L' L'' ∧ ∃ (o : Sl Bs) (e : Nat) (S' : AS Msg), v = .tuple #[o.v, .slice none 0 0, vN e] ∧ e ≤ 9 ∧ L'' = SA.dat o :: aB b p S' :: SA.rds 1 (.slice a n cap) n (l.map v8) :: aS p (S.clocked now) :: L := by
    rintro e he S' L2 hE v L' ⟨rfl, rfl⟩
    exact ⟨_, hE.trans (Ent.nilD (α := Bs)), ⟨none, 0, []⟩, e, S', rfl, he, rfl⟩
  rcases formed_or l h8 with hb | hF
  · exact (H_form b p S a n cap l hn hl now h8 hb _).mono (d3 _ (by decide) _ _ Ent.refl)
  · generalize shr32 (n32 l 4) 24 = kd at hF
    rcases kinds hF with rfl | rfl | rfl | rfl | rfl | rfl | rfl
    · exact absurd (hF.tagged) (by rw [ht]; simp [ht0])
    · by_cases hz : n32 l 8 = 0
      · exact (H_zero2 b p S a n cap l hn hl now 2 hF rfl hz _).mono (d3 _ (by decide) _ _ Ent.refl)
      · exact (H_ack_no b p S a n cap l hn hl now 2 hF rfl hz ht (by omega) _).mono (d3 _ (by decide) _ _ Ent.refl)
    · by_cases hc : l.drop 8 = cookieB (S.clocked now) (n32 l 8) (n32 l 12)
      · refine (H_ck_open b p S a n cap l hn hl now 3 hF rfl ht hsec hc h0 L).mono ?_
        rintro v L' ⟨o, rfl, -, rfl⟩
        exact ⟨_, by exact ett, o, 0, _, rfl, by decide, rfl⟩
      · exact (H_ck_bad b p S a n cap l hn hl now 3 hF rfl ht hsec hc L).mono (d3 _ (by decide) _ _ (by exact ett))
    · exact (H_cka_no b p S a n cap l hn hl now 4 hF rfl ht (by omega) (by omega) _).mono (d3 _ (by decide) _ _ Ent.refl)
    · exact (H_shut5 b p S a n cap l hn hl now 5 hF rfl ht (by omega) _).mono (d3 _ (by decide) _ _ Ent.refl)
    · exact (H_shut6 b p S a n cap l hn hl now 6 hF rfl ht (by omega) _).mono (d3 _ (by decide) _ _ Ent.refl)
    · exact (H_abort b p S a n cap l hn hl now 7 hF rfl ht _).mono (d3 _ (by decide) _ _ Ent.refl)
theorem Handle_idle (T : AS Msg) (hT : T = S.clocked now) (ht0 : S.tag ≠ 0) (L : List SA) : Fn Try.prog 12 [pt b 0, .slice a n cap, vI now] (aB b p S :: SA.rds 1 (.slice a n cap) n (l.map v8) :: aS p T :: L)
    (fun v L' => ∃ (o : Sl Bs) (e : Nat) (S' : AS Msg), v = .tuple #[o.v, .slice none 0 0, vN e] ∧ e ≤ 9 ∧ (¬ (8 ≤ l.length ∧ n32 l 0 = S.tag) → S' = T ∧ (e = 0 → l.length = 16 ∧ l[4]? = some 1 ∧ o.l.length = 1)) ∧ L' = SA.dat o :: aB b p S' :: SA.rds 1 (.slice a n cap) n (l.map v8) :: aS p T :: L) := by
  subst hT
  by_cases hr : 8 ≤ l.length ∧ n32 l 0 = S.tag
  · refine (Handle_right b p S a n cap l hn hl now h0 hsec ht0 hr.1 hr.2 L).mono ?_
    rintro v L' ⟨o, e, S', h1, h2, h3⟩
    exact ⟨_, Ent.refl, o, e, S', h1, h2, fun h => absurd hr h, h3⟩
  · refine (Handle_wrong b p S a n cap l hn hl now h0 hsec hr L).mono ?_
    rintro v L' ⟨o, e, h1, h2, h3, h4⟩
    exact ⟨_, Ent.refl, o, e, _, h1, h3, fun _ => ⟨rfl, h2⟩, h4⟩
end
end ac
end Go.Proofs.Ytomplpdeeomehaa

/- assoc: a side as one atom; Handle, whole. -/
namespace Go.Proofs.Ytomplpdeeomehaa
set_option linter.unusedVariables false
set_option linter.unusedSimpArgs false
open Go.RowKit
namespace ac
open wr (be16 be32)
open rd (num)
--FACTS
/-- what holds of a side always -/
structure InvP (S : PS) : Prop where
  sent : S.sent ≤ S.queue.length
  s16 : S.sent ≤ 16
  q32 : S.queue.length ≤ 32
  near : S.Win 32
  secret : S.secret.length ≤ 140737488351232
  shake : S.shake.length ≤ 1000
  fires : S.fires ≤ 8
  delay : 0 ≤ S.delay ∧ S.delay ≤ 8000
  short : ∀ x ∈ S.queue, x.1.2.2.length ≤ 1024
theorem InvP.shortT {T : AS Msg} (h : InvP (abs T)) : Short T := ⟨fun x hx => h.short (pm x.1, x.2) (List.mem_map_of_mem (f := fun x : Itm => (pm x.1, x.2)) hx)⟩
theorem InvP.lenT {T : AS Msg} : (abs T).queue.length = T.queue.length := List.length_map _
theorem InvP.nearT {T : AS Msg} (h : InvP (abs T)) : T.Win 32 := fun k hk => h.near k (by show ((T.kept k).map pm).isSome = true; simpa using hk)
/-- a side -/
def SD (b : Nat) (S : PS) : SA := SA.ex fun x : AP × AS Msg => SA.star (SA.pure (abs x.2 = S)) (SA.all [aB b x.1 x.2, aS x.1 x.2, aM x.1 x.2, aQ x.1 x.2, aD x.2, aH x.1 x.2])
theorem Ent.SD {b : Nat} {p : AP} {T : AS Msg} {S : PS} {L : List SA} (h : abs T = S) : Ent (aB b p T :: aS p T :: aM p T :: aQ p T :: aD T :: aH p T :: L) (ac.SD b S :: L) :=
  (Ent.doall [aB b p T, aS p T, aM p T, aQ p T, aD T, aH p T]).trans ((Ent.pureE h).trans (Ent.unstarE.trans (Ent.exE (f := fun x : AP × AS Msg => SA.star (SA.pure (abs x.2 = S)) (SA.all [aB b x.1 x.2, aS x.1 x.2, aM x.1 x.2, aQ x.1 x.2, aD x.2, aH x.1 x.2])) (p, T))))
theorem SD_st {b : Nat} {S : PS} {L : List SA} {w : World} (h : St (SD b S :: L) w) : ∃ p T, abs T = S ∧ St (aB b p T :: aS p T :: aM p T :: aQ p T :: aD T :: aH p T :: L) w := by
  obtain ⟨⟨p, T⟩, h1⟩ := St.ex h
  obtain ⟨h2, h3⟩ := St.pure (St.star h1)
  exact ⟨p, T, h2, (Ent.unall [aB b p T, aS p T, aM p T, aQ p T, aD T, aH p T]).st h3⟩
theorem Fn.SD {P : Program} {f : FuncId} {args : List Value} {R : Value → List SA → Prop} {b : Nat} {S : PS} {L : List SA} (h : ∀ p T, abs T = S → Fn P f args (aB b p T :: aS p T :: aM p T :: aQ p T :: aD T :: aH p T :: L) R) : Fn P f args (ac.SD b S :: L) R := fun X w hw => by
  obtain ⟨p, T, hT, h1⟩ := SD_st (St.up1 hw)
  refine h p T hT X w ?_
  exact (show Ent (aB b p T :: aS p T :: aM p T :: aQ p T :: aD T :: aH p T :: X :: L) (X :: aB b p T :: aS p T :: aM p T :: aQ p T :: aD T :: aH p T :: L) by exact ett).st h1
theorem handle_bad {S : PS} {now : Int} {l : List UInt8} (h : l.length < 8 ∨ n32 l 4 &&& 16777215 ≠ 0 ∨ fitsB (shr32 (n32 l 4) 24).toUInt8 (l.length - 8) = false ∨ (decide (n32 l 0 = 0) ≠ decide (shr32 (n32 l 4) 24 = 1))) : S.handle now l = (S.clocked now, [], [], 2) := by
  unfold AS.handle
  simp only
  rw [if_pos h]
theorem handle_ok {S : PS} {now : Int} {l : List UInt8} {kd : UInt32} (h : Formed l kd) : S.handle now l = (S.clocked now).handle2 l kd := by
  unfold AS.handle
  simp only [h.kind]
  rw [if_neg (by
    rintro (h1 | h1 | h1 | h1)
    · have := h.len; omega
    · exact h1 h.low
    · rw [h.fits] at h1; cases h1
    · exact h1 h.tagged)]
  rfl
theorem abs_clocked (S : AS Msg) (now : Int) : abs (S.clocked now) = (abs S).clocked now := rfl
theorem abs_echo (S : AS Msg) (x y : UInt32) (c : List UInt8) : abs (S.echo x y c) = (abs S).echo x y c := rfl
theorem abs_opened (S : AS Msg) (x y : UInt32) : abs (S.opened x y) = (abs S).opened x y := rfl
theorem abs_st (S : AS Msg) (k : Nat) : abs { S with state := k, tset := false } = { abs S with state := k, tset := false } := rfl
section
variable {S : PS} {l : List UInt8}
theorem handle2_z {kd : UInt32} (h2 : kd ≤ 2) (h : n32 l 8 = 0) : S.handle2 l kd = (S, [], [], 2) := by unfold AS.handle2; rw [if_pos ⟨h2, h⟩]
theorem handle2_1n (h : n32 l 8 ≠ 0) (h0 : S.state ≠ 0) (h3 : S.state ≠ 3) : S.handle2 l 1 = (S, [], [], 9) := by unfold AS.handle2; rw [if_neg (fun x => h x.2), if_pos rfl, if_pos ⟨h0, h3⟩]
theorem handle2_1y (h : n32 l 8 ≠ 0) (hs : S.state = 0 ∨ S.state = 3) : S.handle2 l 1 = (S, [S.initAckB (n32 l 8) (n32 l 12)], [], 0) := by unfold AS.handle2; rw [if_neg (fun x => h x.2), if_pos rfl, if_neg (fun x => hs.elim x.1 x.2)]
theorem handle2_a {kd : UInt32} (h : ¬ (kd ≤ 2 ∧ n32 l 8 = 0)) (h1 : kd ≠ 1) (ht : n32 l 0 ≠ S.tag) : S.handle2 l kd = (S, [], [], 4) := by unfold AS.handle2; rw [if_neg h, if_neg h1, if_pos ht]
theorem handle2_2 (h : n32 l 8 ≠ 0) (ht : n32 l 0 = S.tag) : S.handle2 l 2 = if S.state ≠ 1 then (S, [], [], 9) else (S.echo (n32 l 8) (n32 l 12) (l.drop 16), [echoB (n32 l 8) (l.drop 16)], [], 0) := by unfold AS.handle2; rw [if_neg (fun x => h x.2), if_neg (by decide), if_neg (fun x => x ht), if_pos rfl]
theorem handle2_3 (ht : n32 l 0 = S.tag) : S.handle2 l 3 = if l.drop 8 ≠ cookieB S (n32 l 8) (n32 l 12) then (S, [], [], 4) else if S.state = 0 then (S.opened (n32 l 8) (n32 l 12), [pkt (n32 l 8) 4], [], 0) else if S.state ≠ 3 ∨ S.other ≠ n32 l 8 then (S, [], [], 9) else (S, [pkt S.other 4], [], 0) := by
  unfold AS.handle2; rw [if_neg (fun x => absurd x.1 (by decide)), if_neg (by decide), if_neg (fun x => x ht), if_neg (by decide), if_pos rfl]
theorem handle2_4 (ht : n32 l 0 = S.tag) : S.handle2 l 4 = if S.state = 2 then ({ S with state := 3, tset := false }, [], [], 0) else if S.state = 3 then (S, [], [], 0) else (S, [], [], 9) := by
  unfold AS.handle2; rw [if_neg (fun x => absurd x.1 (by decide)), if_neg (by decide), if_neg (fun x => x ht), if_neg (by decide), if_neg (by decide), if_pos rfl]
theorem handle2_7 (ht : n32 l 0 = S.tag) : S.handle2 l 7 = ({ S with state := 4, tset := false }, [], [], 0) := by
  unfold AS.handle2; rw [if_neg (fun x => absurd x.1 (by decide)), if_neg (by decide), if_neg (fun x => x ht), if_neg (by decide), if_neg (by decide), if_neg (by decide), if_pos rfl]
theorem handle2_n {kd : UInt32} (hk : kd = 5 ∨ kd = 6) (ht : n32 l 0 = S.tag) (hs : S.state ≠ 3) : S.handle2 l kd = (S, [], [], 9) := by
  rcases hk with rfl | rfl <;> (unfold AS.handle2; rw [if_neg (fun x => absurd x.1 (by decide)), if_neg (by decide), if_neg (fun x => x ht), if_neg (by decide), if_neg (by decide), if_neg (by decide), if_neg (by decide), if_pos hs])
theorem handle2_5 (ht : n32 l 0 = S.tag) (hs : S.state = 3) : S.handle2 l 5 = ((S.recv (n32 l 8) ((num ((l.drop 12).take 2)).toUInt16, n32 l 14, l.drop 18)).2, [(S.recv (n32 l 8) ((num ((l.drop 12).take 2)).toUInt16, n32 l 14, l.drop 18)).2.sackB], (S.recv (n32 l 8) ((num ((l.drop 12).take 2)).toUInt16, n32 l 14, l.drop 18)).1, 0) := by
  unfold AS.handle2; rw [if_neg (fun x => absurd x.1 (by decide)), if_neg (by decide), if_neg (fun x => x ht), if_neg (by decide), if_neg (by decide), if_neg (by decide), if_neg (by decide), if_neg (fun x => x hs), if_pos rfl]
theorem handle2_6 (ht : n32 l 0 = S.tag) (hs : S.state = 3) : S.handle2 l 6 = ((S.ack1 (n32 l 8) (words (l.drop 12))).more, (S.ack1 (n32 l 8) (words (l.drop 12))).moreOut, [], 0) := by
  unfold AS.handle2; rw [if_neg (fun x => absurd x.1 (by decide)), if_neg (by decide), if_neg (fun x => x ht), if_neg (by decide), if_neg (by decide), if_neg (by decide), if_neg (by decide), if_neg (fun x => x hs), if_neg (by decide)]
end
section
variable {μ : Type} (S : AS μ)
theorem marks_same (l : List UInt32) : ∀ S : AS μ, (l.foldl AS.mark S).secret = S.secret ∧ (l.foldl AS.mark S).kept = S.kept ∧ (l.foldl AS.mark S).shake = S.shake := by
  induction l with
  | nil => intro S; exact ⟨rfl, rfl, rfl⟩
  | cons t l ih =>
    intro S
    have h := ih (S.mark t)
    have h2 : (S.mark t).secret = S.secret ∧ (S.mark t).kept = S.kept ∧ (S.mark t).shake = S.shake := by unfold AS.mark; split <;> exact ⟨rfl, rfl, rfl⟩
    exact ⟨h.1.trans h2.1, h.2.1.trans h2.2.1, h.2.2.trans h2.2.2⟩
theorem ack1_same (c : UInt32) (l : List UInt32) : (S.ack1 c l).secret = S.secret ∧ (S.ack1 c l).kept = S.kept ∧ (S.ack1 c l).shake = S.shake := by
  have h := marks_same l (S.drop1 c)
  have h2 : (S.drop1 c).secret = S.secret ∧ (S.drop1 c).kept = S.kept ∧ (S.drop1 c).shake = S.shake := by unfold AS.drop1; split <;> exact ⟨rfl, rfl, rfl⟩
  have h3 : (S.ack1 c l).secret = (l.foldl AS.mark (S.drop1 c)).secret ∧ (S.ack1 c l).kept = (l.foldl AS.mark (S.drop1 c)).kept ∧ (S.ack1 c l).shake = (l.foldl AS.mark (S.drop1 c)).shake := by unfold AS.ack1; split <;> exact ⟨rfl, rfl, rfl⟩
  exact ⟨h3.1.trans (h.1.trans h2.1), h3.2.1.trans (h.2.1.trans h2.2.1), h3.2.2.trans (h.2.2.trans h2.2.2)⟩
theorem more_same : S.more.secret = S.secret ∧ S.more.kept = S.kept ∧ S.more.shake = S.shake ∧ S.more.queue = S.queue := by unfold AS.more; split <;> exact ⟨rfl, rfl, rfl, rfl⟩
end
theorem keep_same {μ : Type} (S : AS μ) (t : UInt32) (m : μ) : (S.keep t m).secret = S.secret ∧ (S.keep t m).queue = S.queue ∧ (S.keep t m).shake = S.shake := by unfold AS.keep; split <;> exact ⟨rfl, rfl, rfl⟩
theorem deliver_same {μ : Type} (f : Nat) : ∀ S : AS μ, (S.deliver f).2.secret = S.secret ∧ (S.deliver f).2.queue = S.queue ∧ (S.deliver f).2.shake = S.shake := by
  induction f with
  | zero => intro S; exact ⟨rfl, rfl, rfl⟩
  | succ f ih =>
    intro S
    rw [AS.deliver]
    cases S.kept (S.top + 1) with
    | none => exact ⟨rfl, rfl, rfl⟩
    | some m => exact ih S.step1
theorem recv_same {μ : Type} (S : AS μ) (t : UInt32) (m : μ) : (S.recv t m).2.secret = S.secret ∧ (S.recv t m).2.queue = S.queue ∧ (S.recv t m).2.shake = S.shake := by
  have h := deliver_same 33 (S.keep t m)
  have h2 := keep_same S t m
  exact ⟨h.1.trans h2.1, h.2.1.trans h2.2.1, h.2.2.trans h2.2.2⟩
theorem Ent.recv {b : Nat} {p : AP} {T X : AS Msg} {R : SA} {L : List SA} (hx : X.secret = T.secret ∧ X.queue = T.queue ∧ X.shake = T.shake) :
    Ent (aB b p X :: aM p X :: R :: aS p T :: aQ p T :: aD T :: aH p T :: L) (aB b p X :: aS p X :: aM p X :: aQ p X :: aD X :: aH p X :: R :: L) := by
  obtain ⟨h1, h2, h3⟩ := hx
  have eS : aS p T = aS p X := by simp only [aS, h1]
  have eQ : aQ p T = aQ p X := by simp only [aQ, h2]
  have eD : aD T = aD X := by simp only [aD, h2]
  have eH : aH p T = aH p X := by simp only [aH, h3]
  rw [eS, eQ, eD, eH]
  generalize aS p X = A1
  generalize aM p X = A2
  generalize aH p X = A3
  generalize aQ p X = A4
  generalize aD X = A5
  generalize aB b p X = A6
  exact ett
/-- the last packet of the handshake is another one -/
theorem Ent.echo {B H' R S M Q D H : SA} {L : List SA} : Ent (B :: H' :: R :: S :: M :: Q :: D :: H :: L) (B :: S :: M :: Q :: D :: H' :: R :: L) :=
  Ent.trans (show Ent (B :: H' :: R :: S :: M :: Q :: D :: H :: L) (H :: B :: S :: M :: Q :: D :: H' :: R :: L) by exact ett) Ent.drop
/-- behind more, all is still there -/
theorem Ent.more {b : Nat} {p p' : AP} {T X : AS Msg} {R : SA} {L : List SA} (e1 : p'.sa = p.sa) (e2 : p'.sc = p.sc) (e3 : p'.mb = p.mb) (e4 : p'.ha = p.ha) (e5 : p'.hc = p.hc) (hx : X.secret = T.secret ∧ X.kept = T.kept ∧ X.shake = T.shake) :
    Ent (aB b p' X.more :: aQ p' X :: aD X :: R :: aS p T :: aM p T :: aH p T :: L) (aB b p' X.more :: aS p' X.more :: aM p' X.more :: aQ p' X.more :: aD X.more :: aH p' X.more :: R :: L) := by
  obtain ⟨h1, h2, h3⟩ := hx
  obtain ⟨m1, m2, m3, m4⟩ := more_same X
  have eS : aS p T = aS p' X.more := by simp only [aS, m1, h1, e1, e2]
  have eM : aM p T = aM p' X.more := by simp only [aM, m2, h2, e3]
  have eH : aH p T = aH p' X.more := by simp only [aH, m3, h3, e4, e5]
  have eQ : aQ p' X = aQ p' X.more := by simp only [aQ, m4]
  have eD : aD X = aD X.more := by simp only [aD, m4]
  rw [eS, eM, eH, eQ, eD]
  generalize aS p' X.more = A1
  generalize aM p' X.more = A2
  generalize aH p' X.more = A3
  generalize aQ p' X.more = A4
  generalize aD X.more = A5
  generalize aB b p' X.more = A6
  exact ett
section
variable (b : Nat) (S : PS) (hI : InvP S) (a : Option Addr) (n cap : Nat) (l : List UInt8) (hn : l.length = n) (hl : n ≤ 140737488351232) (now : Int)
include hI hn hl
set_option maxHeartbeats 2000000 in
theorem Handle_fn (L : List SA) : Fn Try.prog 12 [pt b 0, .slice a n cap, vI now] (SD b S :: SA.rds 1 (.slice a n cap) n (l.map v8) :: L)
    (fun v L' => ∃ (o : Sl Bs) (g : Sl Msg), v = .tuple #[o.v, g.v, vN (S.handle now l).2.2.2] ∧ o.l.map (·.l) = (S.handle now l).2.1 ∧ g.l.map pm = (S.handle now l).2.2.1 ∧ L' = SA.dat o :: SA.dat g :: SD b (S.handle now l).1 :: SA.rds 1 (.slice a n cap) n (l.map v8) :: L) := by
  refine Fn.SD fun p T hT => ?_
  subst hT
  -- an answer of nothing
  have no : ∀ (e : Nat) (T' : AS Msg), (abs T).handle now l = (abs T', [], [], e) → ∀ L2 : List SA, Ent (aB b p T' :: L2) (aB b p T' :: aS p T' :: aM p T' :: aQ p T' :: aD T' :: aH p T' :: SA.rds 1 (.slice a n cap) n (l.map v8) :: L) → ∀ v L', (v = noOut e ∧ L' = aB b p T' :: L2) → ∃ L'', Ent L' L'' ∧ ∃ (o : Sl Bs) (g : Sl Msg), v = .tuple #[o.v, g.v, vN ((abs T).handle now l).2.2.2] ∧ o.l.map (·.l) = ((abs T).handle now l).2.1 ∧ g.l.map pm = ((abs T).handle now l).2.2.1 ∧ L'' = SA.dat o :: SA.dat g :: SD b ((abs T).handle now l).1 :: SA.rds 1 (.slice a n cap) n (l.map v8) :: L := by
    rintro e T' he L2 hE v L' ⟨rfl, rfl⟩
    rw [he]
    exact ⟨_, hE.trans ((Ent.SD rfl).trans ((Ent.nilD (α := Msg)).trans (Ent.nilD (α := Bs)))), ⟨none, 0, []⟩, ⟨none, 0, []⟩, rfl, rfl, rfl, rfl⟩
  -- one packet
  have one : ∀ (o : Sl Bs) (p' : AP) (T' : AS Msg) (out : List (List UInt8)), (abs T).handle now l = (abs T', out, [], 0) → o.l.map (·.l) = out → ∀ L2 : List SA, Ent L2 (SA.dat o :: aB b p' T' :: aS p' T' :: aM p' T' :: aQ p' T' :: aD T' :: aH p' T' :: SA.rds 1 (.slice a n cap) n (l.map v8) :: L) → ∃ L'', Ent L2 L'' ∧ ∃ (o1 : Sl Bs) (g : Sl Msg), Value.tuple #[o.v, .slice none 0 0, vN 0] = .tuple #[o1.v, g.v, vN ((abs T).handle now l).2.2.2] ∧ o1.l.map (·.l) = ((abs T).handle now l).2.1 ∧ g.l.map pm = ((abs T).handle now l).2.2.1 ∧ L'' = SA.dat o1 :: SA.dat g :: SD b ((abs T).handle now l).1 :: SA.rds 1 (.slice a n cap) n (l.map v8) :: L := by
    rintro o p' T' out he ho L2 hE
    rw [he]
    exact ⟨_, hE.trans ((Ent.under _ (Ent.SD rfl)).trans ((Ent.nilD (α := Msg)).trans Ent.swap)), o, ⟨none, 0, []⟩, rfl, ho, rfl, rfl⟩
  have hsec : T.secret.length ≤ 140737488351232 := hI.secret
  by_cases h8 : 8 ≤ l.length
  · rcases formed_or l h8 with hb | hF
    · refine Fn.preE (L' := aB b p T :: SA.rds 1 (.slice a n cap) n (l.map v8) :: aS p T :: aM p T :: aQ p T :: aD T :: aH p T :: L) (by exact ett) ((H_form b p T a n cap l hn hl now h8 hb _).mono (no 2 (T.clocked now) (handle_bad (.inr hb)) _ ?_))
      exact show Ent (aB b p (T.clocked now) :: SA.rds 1 (.slice a n cap) n (l.map v8) :: aS p T :: aM p T :: aQ p T :: aD T :: aH p T :: L) (aB b p (T.clocked now) :: aS p T :: aM p T :: aQ p T :: aD T :: aH p T :: SA.rds 1 (.slice a n cap) n (l.map v8) :: L) by exact ett
    · generalize hkd : shr32 (n32 l 4) 24 = kd at hF
      have hh : (abs T).handle now l = (abs (T.clocked now)).handle2 l kd := handle_ok hF
      have pre1 : Ent (aB b p T :: aS p T :: aM p T :: aQ p T :: aD T :: aH p T :: SA.rds 1 (.slice a n cap) n (l.map v8) :: L) (aB b p T :: SA.rds 1 (.slice a n cap) n (l.map v8) :: aS p T :: aM p T :: aQ p T :: aD T :: aH p T :: L) := by exact ett
      have pre5 : Ent (aB b p T :: aS p T :: aM p T :: aQ p T :: aD T :: aH p T :: SA.rds 1 (.slice a n cap) n (l.map v8) :: L) (aB b p T :: SA.rds 1 (.slice a n cap) n (l.map v8) :: aM p T :: aS p T :: aQ p T :: aD T :: aH p T :: L) := by exact ett
      have pre6 : Ent (aB b p T :: aS p T :: aM p T :: aQ p T :: aD T :: aH p T :: SA.rds 1 (.slice a n cap) n (l.map v8) :: L) (aB b p T :: SA.rds 1 (.slice a n cap) n (l.map v8) :: aQ p T :: aD T :: aS p T :: aM p T :: aH p T :: L) := by exact ett
      have bk : ∀ T' : AS Msg, Ent (aB b p T' :: SA.rds 1 (.slice a n cap) n (l.map v8) :: aS p T :: aM p T :: aQ p T :: aD T :: aH p T :: L) (aB b p T' :: aS p T :: aM p T :: aQ p T :: aD T :: aH p T :: SA.rds 1 (.slice a n cap) n (l.map v8) :: L) := fun T' => by generalize aB b p T' = A6; exact ett
      have bkS : ∀ T' : AS Msg, Ent (aB b p T' :: aS p T :: SA.rds 1 (.slice a n cap) n (l.map v8) :: aM p T :: aQ p T :: aD T :: aH p T :: L) (aB b p T' :: aS p T :: aM p T :: aQ p T :: aD T :: aH p T :: SA.rds 1 (.slice a n cap) n (l.map v8) :: L) := fun T' => by generalize aB b p T' = A6; exact ett
      rcases kinds hF with rfl | rfl | rfl | rfl | hk | hk | rfl
      · by_cases hz : n32 l 8 = 0
        · exact Fn.preE pre1 ((H_zero1 b p T a n cap l hn hl now 1 hF rfl hz _).mono (no 2 (T.clocked now) (hh.trans (handle2_z (by decide) hz)) _ (bk _)))
        · by_cases hs : T.state = 0 ∨ T.state = 3
          · refine Fn.preE pre1 ((H_init_yes b p T a n cap l hn hl now 1 hF rfl hz hs hsec _).mono ?_)
            rintro v L' ⟨o, rfl, ho, rfl⟩
            exact one o p (T.clocked now) _ (hh.trans (handle2_1y hz hs)) ho _ (Ent.under _ (bkS _))
          · exact Fn.preE pre1 ((H_init_no b p T a n cap l hn hl now 1 hF rfl hz (fun h => hs (.inl h)) (fun h => hs (.inr h)) _).mono (no 9 (T.clocked now) (hh.trans (handle2_1n hz (fun h => hs (.inl h)) (fun h => hs (.inr h)))) _ (bk _)))
      · by_cases hz : n32 l 8 = 0
        · exact Fn.preE pre1 ((H_zero2 b p T a n cap l hn hl now 2 hF rfl hz _).mono (no 2 (T.clocked now) (hh.trans (handle2_z (by decide) hz)) _ (bk _)))
        · by_cases ht : n32 l 0 = T.tag
          · have h2 := hh.trans (handle2_2 hz (S := abs (T.clocked now)) ht)
            by_cases hs : T.state = 1
            · refine Fn.preE pre1 ((H_ack_yes b p T a n cap l hn hl now 2 hF rfl hz ht hs _).mono ?_)
              rintro v L' ⟨o, ha, hc, rfl, ho, rfl⟩
              exact one o { p with ha := ha, hc := hc } ((T.clocked now).echo (n32 l 8) (n32 l 12) (l.drop 16)) _ (h2.trans (if_neg (fun h => h hs))) ho _ (Ent.under _ Ent.echo)
            · exact Fn.preE pre1 ((H_ack_no b p T a n cap l hn hl now 2 hF rfl hz ht hs _).mono (no 9 (T.clocked now) (h2.trans (if_pos hs)) _ (bk _)))
          · exact Fn.preE pre1 ((H_auth2 b p T a n cap l hn hl now 2 hF rfl hz ht _).mono (no 4 (T.clocked now) (hh.trans (handle2_a (fun h => hz h.2) (by decide) ht)) _ (bk _)))
      · by_cases ht : n32 l 0 = T.tag
        · have h2 := hh.trans (handle2_3 (S := abs (T.clocked now)) ht)
          by_cases hc : l.drop 8 = cookieB (T.clocked now) (n32 l 8) (n32 l 12)
          · have h3 := h2.trans (if_neg (fun h => h hc))
            by_cases hs : T.state = 0
            · refine Fn.preE pre1 ((H_ck_open b p T a n cap l hn hl now 3 hF rfl ht hsec hc hs _).mono ?_)
              rintro v L' ⟨o, rfl, ho, rfl⟩
              exact one o p ((T.clocked now).opened (n32 l 8) (n32 l 12)) _ (h3.trans (if_pos hs)) ho _ (Ent.under _ (bkS _))
            · have h4 := h3.trans (if_neg hs)
              by_cases hs3 : T.state = 3 ∧ T.other = n32 l 8
              · refine Fn.preE pre1 ((H_ck_again b p T a n cap l hn hl now 3 hF rfl ht hsec hc hs3.1 hs3.2 _).mono ?_)
                rintro v L' ⟨o, rfl, ho, rfl⟩
                exact one o p (T.clocked now) _ (h4.trans (if_neg (fun h => h.elim (fun h => h hs3.1) (fun h => h hs3.2)))) ho _ (Ent.under _ (bkS _))
              · have hs4 : T.state ≠ 3 ∨ T.other ≠ n32 l 8 := by
                  by_cases h5 : T.state = 3
                  · exact .inr fun h6 => hs3 ⟨h5, h6⟩
                  · exact .inl h5
                exact Fn.preE pre1 ((H_ck_no b p T a n cap l hn hl now 3 hF rfl ht hsec hc hs hs4 _).mono (no 9 (T.clocked now) (h4.trans (if_pos hs4)) _ (bkS _)))
          · exact Fn.preE pre1 ((H_ck_bad b p T a n cap l hn hl now 3 hF rfl ht hsec hc _).mono (no 4 (T.clocked now) (h2.trans (if_pos hc)) _ (bkS _)))
        · exact Fn.preE pre1 ((H_auth b p T a n cap l hn hl now 3 hF (by decide) ht _).mono (no 4 (T.clocked now) (hh.trans (handle2_a (fun h => absurd h.1 (by decide)) (by decide) ht)) _ (bk _)))
      · by_cases ht : n32 l 0 = T.tag
        · have h2 := hh.trans (handle2_4 (S := abs (T.clocked now)) ht)
          by_cases hs : T.state = 2
          · exact Fn.preE pre1 ((H_cka_open b p T a n cap l hn hl now 4 hF rfl ht hs _).mono (no 0 { T.clocked now with state := 3, tset := false } (h2.trans (if_pos hs)) _ (bk _)))
          · by_cases hs3 : T.state = 3
            · exact Fn.preE pre1 ((H_cka_same b p T a n cap l hn hl now 4 hF rfl ht hs3 _).mono (no 0 (T.clocked now) (h2.trans ((if_neg hs).trans (if_pos hs3))) _ (bk _)))
            · exact Fn.preE pre1 ((H_cka_no b p T a n cap l hn hl now 4 hF rfl ht hs hs3 _).mono (no 9 (T.clocked now) (h2.trans ((if_neg hs).trans (if_neg hs3))) _ (bk _)))
        · exact Fn.preE pre1 ((H_auth b p T a n cap l hn hl now 4 hF (by decide) ht _).mono (no 4 (T.clocked now) (hh.trans (handle2_a (fun h => absurd h.1 (by decide)) (by decide) ht)) _ (bk _)))
      · by_cases ht : n32 l 0 = T.tag
        · by_cases hs : T.state = 3
          · subst hk
            refine Fn.preE pre5 ((H_data b p T a n cap l hn hl now 5 hF rfl ht hs (hI.nearT) _).mono ?_)
            rintro v L' ⟨o, g, ta, tc, rfl, hg, ho, rfl⟩
            have hr := abs_recv (T.clocked now) (n32 l 8) ((num ((l.drop 12).take 2)).toUInt16, n32 l 14, ⟨ta, tc, l.drop 18⟩)
            have h2 := hh.trans (handle2_5 (S := abs (T.clocked now)) ht hs)
            rw [show ((num ((l.drop 12).take 2)).toUInt16, n32 l 14, l.drop 18) = pm ((num ((l.drop 12).take 2)).toUInt16, n32 l 14, ⟨ta, tc, l.drop 18⟩) from rfl, hr] at h2
            rw [h2]
            exact ⟨_, Ent.under _ (Ent.under _ ((Ent.recv (recv_same _ _ _)).trans (Ent.SD rfl))), o, g, rfl, by rw [ho]; exact congrArg (fun x => [x]) (abs_sackB _).symm, by rw [hg], rfl⟩
          · exact Fn.preE pre1 ((H_shut5 b p T a n cap l hn hl now kd hF hk ht hs _).mono (no 9 (T.clocked now) (hh.trans (handle2_n (.inl hk) ht hs)) _ (bk _)))
        · exact Fn.preE pre1 ((H_auth b p T a n cap l hn hl now kd hF (by rw [hk]; decide) ht _).mono (no 4 (T.clocked now) (hh.trans (handle2_a (fun h => absurd h.1 (by rw [hk]; decide)) (by rw [hk]; decide) ht)) _ (bk _)))
      · by_cases ht : n32 l 0 = T.tag
        · by_cases hs : T.state = 3
          · subst hk
            have h2 := hh.trans (handle2_6 (S := abs (T.clocked now)) ht hs)
            rw [← abs_ack1, ← abs_more] at h2
            have hq : T.queue.length ≤ 32 := by have := hI.q32; rwa [InvP.lenT] at this
            have hsq : T.sent ≤ T.queue.length := by have := hI.sent; rwa [InvP.lenT] at this
            have fin : ∀ (v : Value) (L' : List SA), (∃ (o : Sl Bs) (p' : AP), p'.sa = p.sa ∧ p'.sc = p.sc ∧ p'.mb = p.mb ∧ p'.ha = p.ha ∧ p'.hc = p.hc ∧ v = .tuple #[o.v, .slice none 0 0, vN 0] ∧ o.l.map (·.l) = (abs ((T.clocked now).ack1 (n32 l 8) (words (l.drop 12)))).moreOut ∧ L' = SA.dat o :: aB b p' ((T.clocked now).ack1 (n32 l 8) (words (l.drop 12))).more :: aQ p' ((T.clocked now).ack1 (n32 l 8) (words (l.drop 12))) :: aD ((T.clocked now).ack1 (n32 l 8) (words (l.drop 12))) :: SA.rds 1 (.slice a n cap) n (l.map v8) :: aS p T :: aM p T :: aH p T :: L) → ∃ L'', Ent L' L'' ∧ ∃ (o1 : Sl Bs) (g : Sl Msg), v = .tuple #[o1.v, g.v, vN ((abs T).handle now l).2.2.2] ∧ o1.l.map (·.l) = ((abs T).handle now l).2.1 ∧ g.l.map pm = ((abs T).handle now l).2.2.1 ∧ L'' = SA.dat o1 :: SA.dat g :: SD b ((abs T).handle now l).1 :: SA.rds 1 (.slice a n cap) n (l.map v8) :: L := by
              rintro v L' ⟨o, p', e1, e2, e3, e4, e5, rfl, ho, rfl⟩
              exact one o p' ((T.clocked now).ack1 (n32 l 8) (words (l.drop 12))).more _ h2 ho _ (Ent.under _ (Ent.more e1 e2 e3 e4 e5 (ack1_same _ _ _)))
            by_cases hlf : (T.clocked now).left (n32 l 8) = true
            · exact Fn.preE pre6 ((H_sack_left b p T a n cap l hn hl now 6 hF rfl ht hs hI.shortT hsq hI.s16 hq hlf _).mono fin)
            · exact Fn.preE pre6 ((H_sack_not b p T a n cap l hn hl now 6 hF rfl ht hs hI.shortT hsq hI.s16 hq (by simpa using hlf) _).mono fin)
          · exact Fn.preE pre1 ((H_shut6 b p T a n cap l hn hl now kd hF hk ht hs _).mono (no 9 (T.clocked now) (hh.trans (handle2_n (.inr hk) ht hs)) _ (bk _)))
        · exact Fn.preE pre1 ((H_auth b p T a n cap l hn hl now kd hF (by rw [hk]; decide) ht _).mono (no 4 (T.clocked now) (hh.trans (handle2_a (fun h => absurd h.1 (by rw [hk]; decide)) (by rw [hk]; decide) ht)) _ (bk _)))
      · by_cases ht : n32 l 0 = T.tag
        · exact Fn.preE pre1 ((H_abort b p T a n cap l hn hl now 7 hF rfl ht _).mono (no 0 { T.clocked now with state := 4, tset := false } (hh.trans (handle2_7 (S := abs (T.clocked now)) ht)) _ (bk _)))
        · exact Fn.preE pre1 ((H_auth b p T a n cap l hn hl now 7 hF (by decide) ht _).mono (no 4 (T.clocked now) (hh.trans (handle2_a (fun h => absurd h.1 (by decide)) (by decide) ht)) _ (bk _)))
  · refine Fn.preE (L' := aB b p T :: SA.rds 1 (.slice a n cap) n (l.map v8) :: aS p T :: aM p T :: aQ p T :: aD T :: aH p T :: L) (by exact ett) ((H_short b p T a n cap l hn hl now (by omega) _).mono (no 2 (T.clocked now) (handle_bad (.inl (by omega))) _ ?_))
    exact show Ent (aB b p (T.clocked now) :: SA.rds 1 (.slice a n cap) n (l.map v8) :: aS p T :: aM p T :: aQ p T :: aD T :: aH p T :: L) (aB b p (T.clocked now) :: aS p T :: aM p T :: aQ p T :: aD T :: aH p T :: SA.rds 1 (.slice a n cap) n (l.map v8) :: L) by exact ett
end
end ac
end Go.Proofs.Ytomplpdeeomehaa

/- assoc: Send, walked. -/
namespace Go.Proofs.Ytomplpdeeomehaa
set_option linter.unusedVariables false
set_option linter.unusedSimpArgs false
open Go.RowKit
namespace ac
open wr (be16 be32)
namespace FxAsW
set_option maxRecDepth 100000
theorem ag51 : Program.aggN Try.prog 51 = some 3 := by kernel_rfl
theorem el64 : Elt Try.prog 64 82 4 40 (.agg #[.int .u16 0, .int .u32 0, .slice none 0 0, .bool false]) := ⟨Try.underlying64, by kernel_rfl, rfl, by decide, by simp [Value.cells, Value.oneCell']⟩
theorem fo51_2 : Program.fieldOff Try.prog 51 2 = some 2 := by kernel_rfl
theorem fo68_11 : Program.fieldOff Try.prog 68 11 = some 11 := by kernel_rfl
theorem fo68_3 : Program.fieldOff Try.prog 68 3 = some 3 := by kernel_rfl
theorem fo68_9 : Program.fieldOff Try.prog 68 9 = some 9 := by kernel_rfl
theorem pl82 : Program.places Try.prog 82 = some [(0, 3), (3, 1)] := by kernel_rfl
theorem sc2 : Program.isSc Try.prog 2 = true := by kernel_rfl
theorem sc23 : Program.isSc Try.prog 23 = true := by kernel_rfl
theorem sc3 : Program.isSc Try.prog 3 = true := by kernel_rfl
theorem sc64 : Program.isSc Try.prog 64 = true := by kernel_rfl
theorem zc82 : Program.zeroC Try.prog 82 = some #[.int .u16 0, .int .u32 0, .slice none 0 0, .bool false] := by kernel_rfl
end FxAsW
open FxAsW
theorem Ent.itm {st : UInt16} {kd : UInt32} {bs : Bs} {co : Bool} {L L1 : List SA} (h : Pull (SA.dat bs) L L1) : Ent L (SA.dat (((st, kd, bs), co) : Itm) :: L1) := by
  have : Dat.g (((st, kd, bs), co) : Itm) = Dat.g bs := List.append_nil _
  refine h.ent.trans ?_
  unfold SA.dat
  rw [this]
  exact Ent.refl
section
variable (b : Nat) (p : AP) (S : AS Msg) (st : UInt16) (kd : UInt32) (ma : Option Addr) (mn mc : Nat) (ml : List UInt8) (hn : ml.length = mn) (hl : mn ≤ 140737488351232) (now : Int)
include hn hl
omit hn hl in
theorem Send_state (hs : S.state ≠ 3) (L : List SA) : Fn Try.prog 19 [pt b 0, .agg (msC st kd (.slice ma mn mc)), vI now] (aB b p S :: SA.rds 1 (.slice ma mn mc) mn (ml.map v8) :: L) (fun v L' => v = .tuple #[.slice none 0 0, vN 9] ∧ L' = aB b p S :: SA.rds 1 (.slice ma mn mc) mn (ml.map v8) :: L) := by
  refine Fn.of (N := 52) Try.func19 rfl rfl ?_
  intro Xh
  refine TC.seq ?_
  refine TC.region ?_
  refine TL.eff rfl rfl rfl (X.box (cs := msC st kd (.slice ma mn mc)) rfl rfl rfl) ?_
  rintro _ _ ⟨b4, rfl, rfl⟩
  refine TL.val rfl rfl rfl (Y.assign rfl rfl) ?_
  refine TL.val rfl rfl rfl (Y.assign rfl rfl) ?_
  refine TL.nil ?_
  refine TQ.next ?_
  refine TC.seq ?_
  refine TC.block ?_
  refine TC.seq ?_
  refine TC.region ?_
  refine TL.val rfl rfl rfl (Y.move rfl rfl) ?_
  refine TL.val rfl rfl rfl (by first | exact Y.eqNilP rfl Try.underlying26 rfl rfl | exact Y.eqNil0 rfl Try.underlying26 rfl rfl) ?_
  refine TL.val rfl rfl rfl (Y.assign rfl rfl) ?_
  refine TL.nil ?_
  refine TQ.next ?_
  refine TC.cond_f rfl ?_
  refine TC.seq ?_
  refine TC.region ?_
  refine TL.val rfl rfl rfl (Y.move rfl rfl) ?_
  refine TL.val rfl rfl rfl (Y.nilCheck rfl rfl) ?_
  refine TL.val rfl rfl rfl (by first | exact Y.fieldAddrJ rfl fo68_3 rfl nqq | exact Y.fieldAddr rfl fo68_3 rfl nqq) ?_
  refine TL.val rfl rfl rfl (Y.load rfl sc3 rfl celN) ?_
  refine TL.as (vN S.state) (by rfl) ?_
  refine TL.val rfl rfl rfl (Y.bin rfl rfl rfl (br_neN (n := 3))) ?_
  refine TL.is true (by (simpa using hs)) ?_
  refine TL.val rfl rfl rfl (Y.assign rfl rfl) ?_
  refine TL.nil ?_
  refine TQ.next ?_
  refine TC.cond_t rfl ?_
  refine TC.seq ?_
  refine TC.region ?_
  refine TL.val rfl rfl rfl (Y.assign rfl rfl) ?_
  refine TL.val rfl rfl rfl (Y.assign rfl rfl) ?_
  refine TL.nil ?_
  refine TQ.next ?_
  refine TC.ret ?_
  refine TQ.block_ret ?_
  refine TQ.then_ret ?_
  refine TQ.retE (res2 rfl rfl rfl) (⟨rfl, rfl⟩) ?_
  exact ett
omit hn hl in
theorem Send_large (hs : S.state = 3) (hm : 1024 < mn) (L : List SA) : Fn Try.prog 19 [pt b 0, .agg (msC st kd (.slice ma mn mc)), vI now] (aB b p S :: SA.rds 1 (.slice ma mn mc) mn (ml.map v8) :: L) (fun v L' => v = .tuple #[.slice none 0 0, vN 3] ∧ L' = aB b p S :: SA.rds 1 (.slice ma mn mc) mn (ml.map v8) :: L) := by
  refine Fn.of (N := 52) Try.func19 rfl rfl ?_
  intro Xh
  refine TC.seq ?_
  refine TC.region ?_
  refine TL.eff rfl rfl rfl (X.box (cs := msC st kd (.slice ma mn mc)) rfl rfl rfl) ?_
  rintro _ _ ⟨b4, rfl, rfl⟩
  refine TL.val rfl rfl rfl (Y.assign rfl rfl) ?_
  refine TL.val rfl rfl rfl (Y.assign rfl rfl) ?_
  refine TL.nil ?_
  refine TQ.next ?_
  refine TC.seq ?_
  refine TC.block ?_
  refine TC.seq ?_
  refine TC.region ?_
  refine TL.val rfl rfl rfl (Y.move rfl rfl) ?_
  refine TL.val rfl rfl rfl (by first | exact Y.eqNilP rfl Try.underlying26 rfl rfl | exact Y.eqNil0 rfl Try.underlying26 rfl rfl) ?_
  refine TL.val rfl rfl rfl (Y.assign rfl rfl) ?_
  refine TL.nil ?_
  refine TQ.next ?_
  refine TC.cond_f rfl ?_
  refine TC.seq ?_
  refine TC.region ?_
  refine TL.val rfl rfl rfl (Y.move rfl rfl) ?_
  refine TL.val rfl rfl rfl (Y.nilCheck rfl rfl) ?_
  refine TL.val rfl rfl rfl (by first | exact Y.fieldAddrJ rfl fo68_3 rfl nqq | exact Y.fieldAddr rfl fo68_3 rfl nqq) ?_
  refine TL.val rfl rfl rfl (Y.load rfl sc3 rfl celN) ?_
  refine TL.as (vN S.state) (by rfl) ?_
  refine TL.val rfl rfl rfl (Y.bin rfl rfl rfl (br_neN (n := 3))) ?_
  refine TL.is false (by (simpa using hs)) ?_
  refine TL.val rfl rfl rfl (Y.assign rfl rfl) ?_
  refine TL.nil ?_
  refine TQ.next ?_
  refine TC.cond_f rfl ?_
  refine TC.seq ?_
  refine TC.region ?_
  refine TL.val rfl rfl rfl (by first | exact Y.fieldAddrJ rfl fo51_2 rfl nqq | exact Y.fieldAddr rfl fo51_2 rfl nqq) ?_
  refine TL.val rfl rfl rfl (Y.load rfl sc23 rfl celD) ?_
  refine TL.as (.slice ma mn mc) (by rfl) ?_
  refine TL.val rfl rfl rfl (Y.len rfl Try.underlying23 rfl) ?_
  refine TL.val rfl rfl rfl (Y.bin rfl rfl rfl (br_gtN (n := 1024))) ?_
  refine TL.is true (by (simpa using hm)) ?_
  refine TL.val rfl rfl rfl (Y.assign rfl rfl) ?_
  refine TL.nil ?_
  refine TQ.next ?_
  refine TC.cond_t rfl ?_
  refine TC.seq ?_
  refine TC.region ?_
  refine TL.val rfl rfl rfl (Y.assign rfl rfl) ?_
  refine TL.val rfl rfl rfl (Y.assign rfl rfl) ?_
  refine TL.nil ?_
  refine TQ.next ?_
  refine TC.ret ?_
  refine TQ.block_ret ?_
  refine TQ.then_ret ?_
  refine TQ.retE (res2 rfl rfl rfl) (⟨rfl, rfl⟩) ?_
  exact ett
omit hn hl in
theorem Send_full (hs : S.state = 3) (hm : mn ≤ 1024) (hq : S.queue.length = 32) (L : List SA) : Fn Try.prog 19 [pt b 0, .agg (msC st kd (.slice ma mn mc)), vI now] (aB b p S :: SA.rds 1 (.slice ma mn mc) mn (ml.map v8) :: L) (fun v L' => v = .tuple #[.slice none 0 0, vN 6] ∧ L' = aB b p S :: SA.rds 1 (.slice ma mn mc) mn (ml.map v8) :: L) := by
  refine Fn.of (N := 52) Try.func19 rfl rfl ?_
  intro Xh
  refine TC.seq ?_
  refine TC.region ?_
  refine TL.eff rfl rfl rfl (X.box (cs := msC st kd (.slice ma mn mc)) rfl rfl rfl) ?_
  rintro _ _ ⟨b4, rfl, rfl⟩
  refine TL.val rfl rfl rfl (Y.assign rfl rfl) ?_
  refine TL.val rfl rfl rfl (Y.assign rfl rfl) ?_
  refine TL.nil ?_
  refine TQ.next ?_
  refine TC.seq ?_
  refine TC.block ?_
  refine TC.seq ?_
  refine TC.region ?_
  refine TL.val rfl rfl rfl (Y.move rfl rfl) ?_
  refine TL.val rfl rfl rfl (by first | exact Y.eqNilP rfl Try.underlying26 rfl rfl | exact Y.eqNil0 rfl Try.underlying26 rfl rfl) ?_
  refine TL.val rfl rfl rfl (Y.assign rfl rfl) ?_
  refine TL.nil ?_
  refine TQ.next ?_
  refine TC.cond_f rfl ?_
  refine TC.seq ?_
  refine TC.region ?_
  refine TL.val rfl rfl rfl (Y.move rfl rfl) ?_
  refine TL.val rfl rfl rfl (Y.nilCheck rfl rfl) ?_
  refine TL.val rfl rfl rfl (by first | exact Y.fieldAddrJ rfl fo68_3 rfl nqq | exact Y.fieldAddr rfl fo68_3 rfl nqq) ?_
  refine TL.val rfl rfl rfl (Y.load rfl sc3 rfl celN) ?_
  refine TL.as (vN S.state) (by rfl) ?_
  refine TL.val rfl rfl rfl (Y.bin rfl rfl rfl (br_neN (n := 3))) ?_
  refine TL.is false (by (simpa using hs)) ?_
  refine TL.val rfl rfl rfl (Y.assign rfl rfl) ?_
  refine TL.nil ?_
  refine TQ.next ?_
  refine TC.cond_f rfl ?_
  refine TC.seq ?_
  refine TC.region ?_
  refine TL.val rfl rfl rfl (by first | exact Y.fieldAddrJ rfl fo51_2 rfl nqq | exact Y.fieldAddr rfl fo51_2 rfl nqq) ?_
  refine TL.val rfl rfl rfl (Y.load rfl sc23 rfl celD) ?_
  refine TL.as (.slice ma mn mc) (by rfl) ?_
  refine TL.val rfl rfl rfl (Y.len rfl Try.underlying23 rfl) ?_
  refine TL.val rfl rfl rfl (Y.bin rfl rfl rfl (br_gtN (n := 1024))) ?_
  refine TL.is false (by (simpa using hm)) ?_
  refine TL.val rfl rfl rfl (Y.assign rfl rfl) ?_
  refine TL.nil ?_
  refine TQ.next ?_
  refine TC.cond_f rfl ?_
  refine TC.seq ?_
  refine TC.region ?_
  refine TL.val rfl rfl rfl (Y.move rfl rfl) ?_
  refine TL.val rfl rfl rfl (Y.nilCheck rfl rfl) ?_
  refine TL.val rfl rfl rfl (by first | exact Y.fieldAddrJ rfl fo68_9 rfl nqq | exact Y.fieldAddr rfl fo68_9 rfl nqq) ?_
  refine TL.val rfl rfl rfl (Y.load rfl sc64 rfl celD) ?_
  refine TL.as (.slice p.qa S.queue.length p.qc) (by rfl) ?_
  refine TL.val rfl rfl rfl (Y.len rfl Try.underlying64 rfl) ?_
  refine TL.val rfl rfl rfl (Y.bin rfl rfl rfl (br_eqN (n := 32))) ?_
  refine TL.is true (by (simpa using hq)) ?_
  refine TL.val rfl rfl rfl (Y.assign rfl rfl) ?_
  refine TL.nil ?_
  refine TQ.next ?_
  refine TC.cond_t rfl ?_
  refine TC.seq ?_
  refine TC.region ?_
  refine TL.val rfl rfl rfl (Y.assign rfl rfl) ?_
  refine TL.val rfl rfl rfl (Y.assign rfl rfl) ?_
  refine TL.nil ?_
  refine TQ.next ?_
  refine TC.ret ?_
  refine TQ.block_ret ?_
  refine TQ.then_ret ?_
  refine TQ.retE (res2 rfl rfl rfl) (⟨rfl, rfl⟩) ?_
  exact ett
set_option maxHeartbeats 2000000 in
theorem Send_yes (hs : S.state = 3) (hm : mn ≤ 1024) (hq : S.queue.length < 32) (hsh : Short S) (hs1 : S.sent ≤ S.queue.length) (h16 : S.sent ≤ 16) (L : List SA) :
    Fn Try.prog 19 [pt b 0, .agg (msC st kd (.slice ma mn mc)), vI now] (aB b p S :: aQ p S :: aD S :: SA.rds 1 (.slice ma mn mc) mn (ml.map v8) :: L)
      (fun v L' => ∃ (o : Sl Bs) (p' : AP) (bs : Bs), p'.sa = p.sa ∧ p'.sc = p.sc ∧ p'.mb = p.mb ∧ p'.ha = p.ha ∧ p'.hc = p.hc ∧ v = .tuple #[o.v, vN 0] ∧ bs.l = ml ∧ o.l.map (·.l) = (abs (S.taken (st, kd, bs) now)).moreOut ∧
        L' = SA.dat o :: aB b p' (S.taken (st, kd, bs) now).more :: aQ p' (S.taken (st, kd, bs) now) :: aD (S.taken (st, kd, bs) now) :: SA.rds 1 (.slice ma mn mc) mn (ml.map v8) :: L) := by
  refine Fn.of (N := 52) Try.func19 rfl rfl ?_
  intro Xh
  refine TC.seq ?_
  refine TC.region ?_
  refine TL.eff rfl rfl rfl (X.box (cs := msC st kd (.slice ma mn mc)) rfl rfl rfl) ?_
  rintro _ _ ⟨b4, rfl, rfl⟩
  refine TL.val rfl rfl rfl (Y.assign rfl rfl) ?_
  refine TL.val rfl rfl rfl (Y.assign rfl rfl) ?_
  refine TL.nil ?_
  refine TQ.next ?_
  refine TC.seq ?_
  refine TC.block ?_
  refine TC.seq ?_
  refine TC.region ?_
  refine TL.val rfl rfl rfl (Y.move rfl rfl) ?_
  refine TL.val rfl rfl rfl (by first | exact Y.eqNilP rfl Try.underlying26 rfl rfl | exact Y.eqNil0 rfl Try.underlying26 rfl rfl) ?_
  refine TL.val rfl rfl rfl (Y.assign rfl rfl) ?_
  refine TL.nil ?_
  refine TQ.next ?_
  refine TC.cond_f rfl ?_
  refine TC.seq ?_
  refine TC.region ?_
  refine TL.val rfl rfl rfl (Y.move rfl rfl) ?_
  refine TL.val rfl rfl rfl (Y.nilCheck rfl rfl) ?_
  refine TL.val rfl rfl rfl (by first | exact Y.fieldAddrJ rfl fo68_3 rfl nqq | exact Y.fieldAddr rfl fo68_3 rfl nqq) ?_
  refine TL.val rfl rfl rfl (Y.load rfl sc3 rfl celN) ?_
  refine TL.as (vN S.state) (by rfl) ?_
  refine TL.val rfl rfl rfl (Y.bin rfl rfl rfl (br_neN (n := 3))) ?_
  refine TL.is false (by (simpa using hs)) ?_
  refine TL.val rfl rfl rfl (Y.assign rfl rfl) ?_
  refine TL.nil ?_
  refine TQ.next ?_
  refine TC.cond_f rfl ?_
  refine TC.seq ?_
  refine TC.region ?_
  refine TL.val rfl rfl rfl (by first | exact Y.fieldAddrJ rfl fo51_2 rfl nqq | exact Y.fieldAddr rfl fo51_2 rfl nqq) ?_
  refine TL.val rfl rfl rfl (Y.load rfl sc23 rfl celD) ?_
  refine TL.as (.slice ma mn mc) (by rfl) ?_
  refine TL.val rfl rfl rfl (Y.len rfl Try.underlying23 rfl) ?_
  refine TL.val rfl rfl rfl (Y.bin rfl rfl rfl (br_gtN (n := 1024))) ?_
  refine TL.is false (by (simpa using hm)) ?_
  refine TL.val rfl rfl rfl (Y.assign rfl rfl) ?_
  refine TL.nil ?_
  refine TQ.next ?_
  refine TC.cond_f rfl ?_
  refine TC.seq ?_
  refine TC.region ?_
  refine TL.val rfl rfl rfl (Y.move rfl rfl) ?_
  refine TL.val rfl rfl rfl (Y.nilCheck rfl rfl) ?_
  refine TL.val rfl rfl rfl (by first | exact Y.fieldAddrJ rfl fo68_9 rfl nqq | exact Y.fieldAddr rfl fo68_9 rfl nqq) ?_
  refine TL.val rfl rfl rfl (Y.load rfl sc64 rfl celD) ?_
  refine TL.as (.slice p.qa S.queue.length p.qc) (by rfl) ?_
  refine TL.val rfl rfl rfl (Y.len rfl Try.underlying64 rfl) ?_
  refine TL.val rfl rfl rfl (Y.bin rfl rfl rfl (br_eqN (n := 32))) ?_
  refine TL.is false (by (simp; omega)) ?_
  refine TL.val rfl rfl rfl (Y.assign rfl rfl) ?_
  refine TL.nil ?_
  refine TQ.next ?_
  refine TC.cond_f rfl ?_
  refine TC.skip ?_
  refine TQ.block_normal ?_
  refine TQ.next ?_
  refine TC.seq ?_
  refine TC.region ?_
  refine TL.val rfl rfl rfl (Y.move rfl rfl) ?_
  refine TL.val rfl rfl rfl (Y.move rfl rfl) ?_
  refine TL.val rfl rfl rfl (Y.nilCheck rfl rfl) ?_
  refine TL.val rfl rfl rfl (by first | exact Y.fieldAddrJ rfl fo68_11 rfl nqq | exact Y.fieldAddr rfl fo68_11 rfl nqq) ?_
  refine TL.val rfl rfl rfl (Y.load rfl sc2 rfl celN) ?_
  refine TL.as (vI S.clock) (by rfl) ?_
  refine TL.val rfl rfl rfl (Y.move rfl rfl) ?_
  refine TL.val rfl rfl rfl (Y.maxI rfl rfl rfl) ?_
  refine TL.as (vI (max S.clock now)) (by rfl) ?_
  refine TL.val rfl rfl rfl (Y.nilCheck rfl rfl) ?_
  refine TL.val rfl rfl rfl (by first | exact Y.fieldAddrJ rfl fo68_11 rfl nqq | exact Y.fieldAddr rfl fo68_11 rfl nqq) ?_
  refine TL.eff0 rfl rfl (X.store (cs' := asC p (S.clocked now)) rfl (by kernel_rfl) rfl rfl rfl pul (by show 11 < 17; decide) rfl) ?_
  rintro _ _ rfl
  refine TL.nil ?_
  refine TQ.next ?_
  refine TC.seq ?_
  refine TC.draws 12 [aB b p (S.clocked now), SA.blk b4 (msC st kd (.slice ma mn mc)) 51] (by kernel_rfl) (by kernel_rfl) (by repeat first | exact holds_nil | refine holds_cons inn ?_) ?_
  refine TA.take 0 rfl rfl rfl rfl (by kernel_rfl) (by kernel_rfl) (by kernel_rfl) rfl (by kernel_rfl) (by kernel_rfl) (fun _ _ _ h => h) (Y.move rfl rfl) ?_
  refine TA.take 1 rfl rfl rfl rfl (by kernel_rfl) (by kernel_rfl) (by kernel_rfl) rfl (by kernel_rfl) (by kernel_rfl) (fun _ _ _ h => h) (Y.move rfl rfl) ?_
  refine TA.take 2 rfl rfl rfl rfl (by kernel_rfl) (by kernel_rfl) (by kernel_rfl) rfl (by kernel_rfl) (by kernel_rfl) (fun _ _ _ h => h) (Y.nilCheck rfl rfl) ?_
  refine TA.take 3 rfl rfl rfl rfl (by kernel_rfl) (by kernel_rfl) (by kernel_rfl) rfl (by kernel_rfl) (by kernel_rfl) (fun _ _ _ h => h) (by first | exact Y.fieldAddrJ rfl fo68_9 rfl nqq | exact Y.fieldAddr rfl fo68_9 rfl nqq) ?_
  refine TA.take 4 rfl rfl rfl rfl (by kernel_rfl) (by kernel_rfl) (by kernel_rfl) rfl (by kernel_rfl) (by kernel_rfl) (fun _ _ _ h => h) (Y.load rfl sc64 rfl celD) ?_
  refine TA.as (.slice p.qa S.queue.length p.qc) (by rfl) ?_
  refine TA.take 5 rfl rfl rfl rfl (by kernel_rfl) (by kernel_rfl) (by kernel_rfl) rfl (by kernel_rfl) (by kernel_rfl) (fun _ _ _ h => h) (Y.loadAgg rfl ag51 rfl (Cels.all (cs := msC st kd (.slice ma mn mc)) inn) (by first | rfl | ((try simp only [List.length_map, List.length_set, List.length_replicate]); omega))) ?_
  refine TA.as (.agg (msC st kd (.slice ma mn mc))) (by rfl) ?_
  refine TA.one 6 (by kernel_rfl) rfl rfl rfl rfl (X.call rfl Try.func41 (by kernel_rfl) rfl rfl (Fn.preE (by repeat first | (with_reducible apply Ent.refl) | (apply Ent.cons; case h => first | (with_reducible (repeat first | apply Pull.here | apply Pull.there); done) | (repeat first | apply Pull.here | apply Pull.there))) (copy_fn st kd ma mn mc ml hn hl _))) ?_
  rintro _ _ ⟨ca, cc, rfl, rfl⟩
  refine ⟨(Or.inr (by repeat first | exact holds_nil | refine holds_cons inn ?_)), ?_⟩
  refine TA.to ((Pull.ent (A := SA.owns 5 1 (.slice ca mn cc) mn (ml.map v8)) pul).trans (Ent.freeze.trans (Ent.mkBytes hn))) ?_
  refine TA.take 7 rfl rfl rfl rfl (by kernel_rfl) (by kernel_rfl) (by kernel_rfl) rfl (by kernel_rfl) (by kernel_rfl) (fun _ _ _ h => h) (Y.buildS (cells := #[v16 st, v32 kd, .slice ca mn cc, .bool false]) rfl rfl pl82 zc82 (by kernel_rfl)) ?_
  refine TA.as (.agg (Dat.c (((st, kd, ⟨ca, cc, ml⟩), false) : Itm)).toArray) (by (subst hn; rfl)) ?_
  refine TA.one 8 (by kernel_rfl) rfl rfl rfl rfl (X.litD (sz := 4) (((st, kd, ⟨ca, cc, ml⟩), false) : Itm) rfl Try.underlying64 (by kernel_rfl) rfl rfl (by decide)) ?_
  rintro _ _ ⟨g46, rfl, rfl⟩
  refine ⟨(Or.inr (by repeat first | exact holds_nil | refine holds_cons inn ?_)), ?_⟩
  refine TA.one 9 (by kernel_rfl) rfl rfl rfl rfl (X.appendS rfl el64 rfl pul rfl (by first | exact Src.owns Try.underlying64 inn | exact Src.rds Try.underlying64 inn | exact Src.reads (by assumption) Try.underlying64 inn) (by simp only [maxLen]; omega) (by omega)) ?_
  rintro _ _ ⟨a47, c47, rfl, rfl⟩
  rw [show Dat.cs S.queue ++ Dat.c (((st, kd, ⟨ca, cc, ml⟩), false) : Itm) = Dat.cs (S.queue ++ [(((st, kd, ⟨ca, cc, ml⟩), false) : Itm)]) by rw [Dat.cs_app, Dat.cs_one], show S.queue.length + 1 = (S.queue ++ [(((st, kd, ⟨ca, cc, ml⟩), false) : Itm)]).length by simp]
  refine ⟨(Or.inr (by repeat first | exact holds_nil | refine holds_cons inn ?_)), ?_⟩
  refine TA.takeP 10 rfl rfl rfl rfl (by kernel_rfl) (by kernel_rfl) (by kernel_rfl) rfl (fun _ _ _ h => h) (Y.nilCheck rfl rfl) ?_
  refine TA.take 11 rfl rfl rfl rfl (by kernel_rfl) (by kernel_rfl) (by kernel_rfl) rfl (by kernel_rfl) (by kernel_rfl) (fun _ _ _ h => h) (by first | exact Y.fieldAddrJ rfl fo68_9 rfl nqq | exact Y.fieldAddr rfl fo68_9 rfl nqq) ?_
  refine TA.one0 12 (by kernel_rfl) rfl rfl rfl (X.store (cs' := asC { p with qa := a47, qc := c47 } (S.taken (st, kd, ⟨ca, cc, ml⟩) now)) rfl (by kernel_rfl) rfl rfl rfl pul (by show 9 < 17; decide) rfl) ?_
  rintro _ _ rfl
  refine ⟨(Or.inl (by kernel_rfl)), ?_⟩
  refine TA.done (by kernel_rfl) ?_
  refine TQ.next ?_
  refine TC.seq ?_
  refine TC.to (Ent.itm (st := st) (kd := kd) (bs := ⟨ca, cc, ml⟩) (co := false) pul) ?_
  refine TC.to (Ent.addEl (ys := S.queue) (x := (((st, kd, ⟨ca, cc, ml⟩), false) : Itm)) pul pul) ?_
  obtain ⟨S2, hS2⟩ : ∃ S2 : AS Msg, S2 = S.taken (st, kd, ⟨ca, cc, ml⟩) now := ⟨_, rfl⟩
  have hq2 : S.queue ++ [(((st, kd, ⟨ca, cc, ml⟩), false) : Itm)] = S2.queue := by rw [hS2]; rfl
  rw [← hS2, hq2]
  have hsh2 : Short S2 := ⟨fun x hx => by
      rw [← hq2] at hx
      rcases List.mem_append.1 hx with hx | hx
      · exact hsh.queue x hx
      · rw [List.mem_singleton.1 hx]; show ml.length ≤ 1024; omega⟩
  refine TC.region ?_
  refine TL.val rfl rfl rfl (Y.move rfl rfl) ?_
  refine TL.eff rfl rfl rfl (X.call rfl Try.func42 (by kernel_rfl) rfl rfl (Fn.preE (by repeat first | (with_reducible apply Ent.refl) | (apply Ent.cons; case h => first | (with_reducible (repeat first | apply Pull.here | apply Pull.there); done) | (repeat first | apply Pull.here | apply Pull.there))) (more_fn b { p with qa := a47, qc := c47 } S2 hsh2 (by rw [← hq2, hS2, List.length_append]; show S.sent ≤ _; omega) (by rw [hS2]; exact h16) _))) ?_
  rintro _ _ ⟨o, rfl, ho, rfl⟩
  refine TL.val rfl rfl rfl (Y.assign rfl rfl) ?_
  refine TL.val rfl rfl rfl (Y.assign rfl rfl) ?_
  refine TL.nil ?_
  refine TQ.next ?_
  refine TC.ret ?_
  refine TQ.retE (res2 rfl rfl rfl) (⟨o, { p with qa := a47, qc := c47 }, ⟨ca, cc, ml⟩, rfl, rfl, rfl, rfl, rfl, rfl, rfl, by rw [← hS2]; exact ho, by rw [← hS2]⟩) ?_
  exact ett
end
end ac
end Go.Proofs.Ytomplpdeeomehaa

/- assoc: Tick, walked. -/
namespace Go.Proofs.Ytomplpdeeomehaa
set_option linter.unusedVariables false
set_option linter.unusedSimpArgs false
open Go.RowKit
namespace ac
open wr (be16 be32)
namespace FxAsX
set_option maxRecDepth 100000
theorem el24 : Elt Try.prog 24 23 1 24 (.slice none 0 0) := ⟨Try.underlying24, by kernel_rfl, rfl, by decide, by simp [Value.cells, Value.oneCell']⟩
theorem fo66_0 : Program.fieldOff Try.prog 66 0 = some 0 := by kernel_rfl
theorem fo66_1 : Program.fieldOff Try.prog 66 1 = some 1 := by kernel_rfl
theorem fo66_2 : Program.fieldOff Try.prog 66 2 = some 2 := by kernel_rfl
theorem fo66_3 : Program.fieldOff Try.prog 66 3 = some 3 := by kernel_rfl
theorem fo68_10 : Program.fieldOff Try.prog 68 10 = some 10 := by kernel_rfl
theorem fo68_11 : Program.fieldOff Try.prog 68 11 = some 11 := by kernel_rfl
theorem fo68_12 : Program.fieldOff Try.prog 68 12 = some 12 := by kernel_rfl
theorem fo68_13 : Program.fieldOff Try.prog 68 13 = some 16 := by kernel_rfl
theorem fo68_3 : Program.fieldOff Try.prog 68 3 = some 3 := by kernel_rfl
theorem fo68_9 : Program.fieldOff Try.prog 68 9 = some 9 := by kernel_rfl
theorem fo82_1 : Program.fieldOff Try.prog 82 1 = some 3 := by kernel_rfl
theorem pl66 : Program.places Try.prog 66 = some [(0, 1), (1, 1), (2, 1), (3, 1)] := by kernel_rfl
theorem sc2 : Program.isSc Try.prog 2 = true := by kernel_rfl
theorem sc23 : Program.isSc Try.prog 23 = true := by kernel_rfl
theorem sc3 : Program.isSc Try.prog 3 = true := by kernel_rfl
theorem sc4 : Program.isSc Try.prog 4 = true := by kernel_rfl
theorem sc64 : Program.isSc Try.prog 64 = true := by kernel_rfl
theorem sl64 : Program.slI Try.prog 64 = some 4 := by kernel_rfl
theorem zc66 : Program.zeroC Try.prog 66 = some #[.bool false, .int .i64 0, .int .i64 0, .int .i64 0] := by kernel_rfl
end FxAsX
open FxAsX
section
variable {μ : Type} (S : AS μ)
/-- the timer is due -/
def AS.due : Prop := S.tset = true ∧ ¬ (S.clock - S.moment) % 18446744073709551616 < S.delay
def AS.fired : AS μ := { S with tset := true, moment := S.clock, delay := min (2 * S.delay) 8000, fires := S.fires + 1 }
def AS.over : AS μ := { S with state := 4, tset := false }
def comeAt (q : List (μ × Bool)) (i : Nat) : Bool := ((q[i]?).map (·.2)).getD false
end
def AS.againOut (S : PS) (n : Nat) : List (List UInt8) := ((List.range n).filter fun i => !comeAt S.queue i).map S.dataAt
theorem againOut_s (S : PS) (n : Nat) : S.againOut (n + 1) = S.againOut n ++ if comeAt S.queue n then [] else [S.dataAt n] := by
  unfold AS.againOut
  rw [List.range_succ, List.filter_append, List.map_append]
  congr 1
  cases h : comeAt S.queue n <;> simp [h]
section
variable (b : Nat) (p : AP) (S : AS Msg) (now : Int) (hd : 0 ≤ S.delay ∧ S.delay ≤ 8000)
include hd
theorem Tick_quiet (h : ¬ (S.clocked now).due) (L : List SA) : Fn Try.prog 20 [pt b 0, vI now] (aB b p S :: L) (fun v L' => v = .slice none 0 0 ∧ L' = aB b p (S.clocked now) :: L) := by
  have hm : S.delay % 18446744073709551616 = S.delay := Int.emod_eq_of_lt (by omega) (by omega)
  refine Fn.of (N := 111) Try.func20 rfl rfl ?_
  intro Xh
  refine TC.seq ?_
  refine TC.region ?_
  refine TL.val rfl rfl rfl (Y.assign rfl rfl) ?_
  refine TL.nil ?_
  refine TQ.next ?_
  refine TC.scope ?_
  refine TC.seq ?_
  refine TC.seq ?_
  refine TC.region ?_
  refine TL.val rfl rfl rfl (Y.move rfl rfl) ?_
  refine TL.val rfl rfl rfl (by first | exact Y.eqNilP rfl Try.underlying26 rfl rfl | exact Y.eqNil0 rfl Try.underlying26 rfl rfl) ?_
  refine TL.nil ?_
  refine TQ.next ?_
  refine TC.cond_f rfl ?_
  refine TC.skip ?_
  refine TQ.next ?_
  refine TC.seq ?_
  refine TC.region ?_
  refine TL.val rfl rfl rfl (Y.move rfl rfl) ?_
  refine TL.val rfl rfl rfl (Y.move rfl rfl) ?_
  refine TL.val rfl rfl rfl (Y.nilCheck rfl rfl) ?_
  refine TL.val rfl rfl rfl (by first | exact Y.fieldAddrJ rfl fo68_11 rfl nqq | exact Y.fieldAddr rfl fo68_11 rfl nqq) ?_
  refine TL.val rfl rfl rfl (Y.load rfl sc2 rfl celN) ?_
  refine TL.as (vI S.clock) (by rfl) ?_
  refine TL.val rfl rfl rfl (Y.move rfl rfl) ?_
  refine TL.val rfl rfl rfl (Y.maxI rfl rfl rfl) ?_
  refine TL.as (vI (max S.clock now)) (by rfl) ?_
  refine TL.val rfl rfl rfl (Y.nilCheck rfl rfl) ?_
  refine TL.val rfl rfl rfl (by first | exact Y.fieldAddrJ rfl fo68_11 rfl nqq | exact Y.fieldAddr rfl fo68_11 rfl nqq) ?_
  refine TL.eff0 rfl rfl (X.store (cs' := asC p (S.clocked now)) rfl (by kernel_rfl) rfl rfl rfl pul (by show 11 < 17; decide) rfl) ?_
  rintro _ _ rfl
  refine TL.nil ?_
  refine TQ.next ?_
  refine TC.seq ?_
  refine TC.region ?_
  refine TL.val rfl rfl rfl (Y.move rfl rfl) ?_
  refine TL.val rfl rfl rfl (Y.nilCheck rfl rfl) ?_
  refine TL.val rfl rfl rfl (by first | exact Y.fieldAddrJ rfl fo68_12 rfl nqq | exact Y.fieldAddr rfl fo68_12 rfl nqq) ?_
  refine TL.val rfl rfl rfl (Y.assign rfl rfl) ?_
  refine TL.nil ?_
  refine TQ.next ?_
  refine TC.seq ?_
  refine TC.block ?_
  refine TC.seq ?_
  refine TC.draws 25 _ (by kernel_rfl) (by kernel_rfl) (fun _ h => h) ?_
  refine TA.take 0 rfl rfl rfl rfl (by kernel_rfl) (by kernel_rfl) (by kernel_rfl) rfl (by kernel_rfl) (by kernel_rfl) (fun _ _ _ h => h) (Y.move rfl rfl) ?_
  refine TA.take 1 rfl rfl rfl rfl (by kernel_rfl) (by kernel_rfl) (by kernel_rfl) rfl (by kernel_rfl) (by kernel_rfl) (fun _ _ _ h => h) (Y.nilCheck rfl rfl) ?_
  refine TA.take 2 rfl rfl rfl rfl (by kernel_rfl) (by kernel_rfl) (by kernel_rfl) rfl (by kernel_rfl) (by kernel_rfl) (fun _ _ _ h => h) (by first | exact Y.fieldAddrJ rfl fo66_0 rfl nqq | exact Y.fieldAddr rfl fo66_0 rfl nqq) ?_
  refine TA.take 3 rfl rfl rfl rfl (by kernel_rfl) (by kernel_rfl) (by kernel_rfl) rfl (by kernel_rfl) (by kernel_rfl) (fun _ _ _ h => h) (Y.load rfl sc4 rfl celD) ?_
  refine TA.as (vB S.tset) (by rfl) ?_
  refine TA.take 4 rfl rfl rfl rfl (by kernel_rfl) (by kernel_rfl) (by kernel_rfl) rfl (by kernel_rfl) (by kernel_rfl) (fun _ _ _ h => h) (Y.not rfl rfl) ?_
  refine TA.take 5 rfl rfl rfl rfl (by kernel_rfl) (by kernel_rfl) (by kernel_rfl) rfl (by kernel_rfl) (by kernel_rfl) (fun _ _ _ h => h) (Y.move rfl rfl) ?_
  refine TA.case (fun g5_5 => ?_) (fun g5_5 => ?_)
  · try simp only [decide_eq_true_eq, decide_eq_false_iff_not, Bool.not_eq_true', Bool.not_eq_false', Nat.not_lt, Nat.not_le, beq_iff_eq, bne_iff_ne] at g5_5
    refine TA.not 6 rfl rfl rfl rfl (by kernel_rfl) (by kernel_rfl) (by kernel_rfl) rfl (fun _ _ _ h => h) ?_
    refine TA.not 7 rfl rfl rfl rfl (by kernel_rfl) (by kernel_rfl) (by kernel_rfl) rfl (fun _ _ _ h => h) ?_
    refine TA.not 8 rfl rfl rfl rfl (by kernel_rfl) (by kernel_rfl) (by kernel_rfl) rfl (fun _ _ _ h => h) ?_
    refine TA.not 9 rfl rfl rfl rfl (by kernel_rfl) (by kernel_rfl) (by kernel_rfl) rfl (fun _ _ _ h => h) ?_
    refine TA.not 10 rfl rfl rfl rfl (by kernel_rfl) (by kernel_rfl) (by kernel_rfl) rfl (fun _ _ _ h => h) ?_
    refine TA.not 11 rfl rfl rfl rfl (by kernel_rfl) (by kernel_rfl) (by kernel_rfl) rfl (fun _ _ _ h => h) ?_
    refine TA.not 12 rfl rfl rfl rfl (by kernel_rfl) (by kernel_rfl) (by kernel_rfl) rfl (fun _ _ _ h => h) ?_
    refine TA.not 13 rfl rfl rfl rfl (by kernel_rfl) (by kernel_rfl) (by kernel_rfl) rfl (fun _ _ _ h => h) ?_
    refine TA.not 14 rfl rfl rfl rfl (by kernel_rfl) (by kernel_rfl) (by kernel_rfl) rfl (fun _ _ _ h => h) ?_
    refine TA.not 15 rfl rfl rfl rfl (by kernel_rfl) (by kernel_rfl) (by kernel_rfl) rfl (fun _ _ _ h => h) ?_
    refine TA.not 16 rfl rfl rfl rfl (by kernel_rfl) (by kernel_rfl) (by kernel_rfl) rfl (fun _ _ _ h => h) ?_
    refine TA.not 17 rfl rfl rfl rfl (by kernel_rfl) (by kernel_rfl) (by kernel_rfl) rfl (fun _ _ _ h => h) ?_
    refine TA.not 18 rfl rfl rfl rfl (by kernel_rfl) (by kernel_rfl) (by kernel_rfl) rfl (fun _ _ _ h => h) ?_
    refine TA.not 19 rfl rfl rfl rfl (by kernel_rfl) (by kernel_rfl) (by kernel_rfl) rfl (fun _ _ _ h => h) ?_
    refine TA.not 20 rfl rfl rfl rfl (by kernel_rfl) (by kernel_rfl) (by kernel_rfl) rfl (fun _ _ _ h => h) ?_
    refine TA.not 21 rfl rfl rfl rfl (by kernel_rfl) (by kernel_rfl) (by kernel_rfl) rfl (fun _ _ _ h => h) ?_
    refine TA.not 22 rfl rfl rfl rfl (by kernel_rfl) (by kernel_rfl) (by kernel_rfl) rfl (fun _ _ _ h => h) ?_
    refine TA.take 23 rfl rfl rfl rfl (by kernel_rfl) (by kernel_rfl) (by kernel_rfl) rfl (by kernel_rfl) (by kernel_rfl) (fun _ _ _ h => h) (Y.pick_t rfl rfl rfl) ?_
    refine TA.take 24 rfl rfl rfl rfl (by kernel_rfl) (by kernel_rfl) (by kernel_rfl) rfl (by kernel_rfl) (by kernel_rfl) (fun _ _ _ h => h) (Y.assign rfl rfl) ?_
    refine TA.done (by kernel_rfl) ?_
    refine TQ.next ?_
    refine TC.cond_t rfl ?_
    refine TC.seq ?_
    refine TC.region ?_
    refine TL.val rfl rfl rfl (Y.assign rfl rfl) ?_
    refine TL.nil ?_
    refine TQ.next ?_
    refine TC.ret ?_
    refine TQ.block_ret ?_
    refine TQ.then_ret ?_
    refine TQ.scope_ret ?_
    refine TQ.retE (res1 rfl rfl) (⟨rfl, rfl⟩) ?_
    exact ett
  · try simp only [decide_eq_true_eq, decide_eq_false_iff_not, Bool.not_eq_true', Bool.not_eq_false', Nat.not_lt, Nat.not_le, beq_iff_eq, bne_iff_ne] at g5_5
    refine TA.take 6 rfl rfl rfl rfl (by kernel_rfl) (by kernel_rfl) (by kernel_rfl) rfl (by kernel_rfl) (by kernel_rfl) (fun _ _ _ h => h) (Y.move rfl rfl) ?_
    refine TA.take 7 rfl rfl rfl rfl (by kernel_rfl) (by kernel_rfl) (by kernel_rfl) rfl (by kernel_rfl) (by kernel_rfl) (fun _ _ _ h => h) (Y.nilCheck rfl rfl) ?_
    refine TA.take 8 rfl rfl rfl rfl (by kernel_rfl) (by kernel_rfl) (by kernel_rfl) rfl (by kernel_rfl) (by kernel_rfl) (fun _ _ _ h => h) (by first | exact Y.fieldAddrJ rfl fo68_11 rfl nqq | exact Y.fieldAddr rfl fo68_11 rfl nqq) ?_
    refine TA.take 9 rfl rfl rfl rfl (by kernel_rfl) (by kernel_rfl) (by kernel_rfl) rfl (by kernel_rfl) (by kernel_rfl) (fun _ _ _ h => h) (Y.load rfl sc2 rfl celN) ?_
    refine TA.as (vI (max S.clock now)) (by rfl) ?_
    refine TA.take 10 rfl rfl rfl rfl (by kernel_rfl) (by kernel_rfl) (by kernel_rfl) rfl (by kernel_rfl) (by kernel_rfl) (fun _ _ _ h => h) (Y.conv (m := (max S.clock now) % 18446744073709551616) rfl Try.underlying2 Try.underlying32 rfl (wrap_u64 _)) ?_
    refine TA.take 11 rfl rfl rfl rfl (by kernel_rfl) (by kernel_rfl) (by kernel_rfl) rfl (by kernel_rfl) (by kernel_rfl) (fun _ _ _ h => h) (Y.move rfl rfl) ?_
    refine TA.take 12 rfl rfl rfl rfl (by kernel_rfl) (by kernel_rfl) (by kernel_rfl) rfl (by kernel_rfl) (by kernel_rfl) (fun _ _ _ h => h) (Y.nilCheck rfl rfl) ?_
    refine TA.take 13 rfl rfl rfl rfl (by kernel_rfl) (by kernel_rfl) (by kernel_rfl) rfl (by kernel_rfl) (by kernel_rfl) (fun _ _ _ h => h) (by first | exact Y.fieldAddrJ rfl fo66_1 rfl nqq | exact Y.fieldAddr rfl fo66_1 rfl nqq) ?_
    refine TA.take 14 rfl rfl rfl rfl (by kernel_rfl) (by kernel_rfl) (by kernel_rfl) rfl (by kernel_rfl) (by kernel_rfl) (fun _ _ _ h => h) (Y.load rfl sc2 rfl celN) ?_
    refine TA.as (vI S.moment) (by rfl) ?_
    refine TA.take 15 rfl rfl rfl rfl (by kernel_rfl) (by kernel_rfl) (by kernel_rfl) rfl (by kernel_rfl) (by kernel_rfl) (fun _ _ _ h => h) (Y.conv (m := S.moment % 18446744073709551616) rfl Try.underlying2 Try.underlying32 rfl (wrap_u64 _)) ?_
    refine TA.take 16 rfl rfl rfl rfl (by kernel_rfl) (by kernel_rfl) (by kernel_rfl) rfl (by kernel_rfl) (by kernel_rfl) (fun _ _ _ h => h) (Y.bin rfl rfl rfl br_subU) ?_
    refine TA.take 17 rfl rfl rfl rfl (by kernel_rfl) (by kernel_rfl) (by kernel_rfl) rfl (by kernel_rfl) (by kernel_rfl) (fun _ _ _ h => h) (Y.move rfl rfl) ?_
    refine TA.take 18 rfl rfl rfl rfl (by kernel_rfl) (by kernel_rfl) (by kernel_rfl) rfl (by kernel_rfl) (by kernel_rfl) (fun _ _ _ h => h) (Y.nilCheck rfl rfl) ?_
    refine TA.take 19 rfl rfl rfl rfl (by kernel_rfl) (by kernel_rfl) (by kernel_rfl) rfl (by kernel_rfl) (by kernel_rfl) (fun _ _ _ h => h) (by first | exact Y.fieldAddrJ rfl fo66_2 rfl nqq | exact Y.fieldAddr rfl fo66_2 rfl nqq) ?_
    refine TA.take 20 rfl rfl rfl rfl (by kernel_rfl) (by kernel_rfl) (by kernel_rfl) rfl (by kernel_rfl) (by kernel_rfl) (fun _ _ _ h => h) (Y.load rfl sc2 rfl celN) ?_
    refine TA.as (vI S.delay) (by rfl) ?_
    refine TA.take 21 rfl rfl rfl rfl (by kernel_rfl) (by kernel_rfl) (by kernel_rfl) rfl (by kernel_rfl) (by kernel_rfl) (fun _ _ _ h => h) (Y.conv (m := S.delay % 18446744073709551616) rfl Try.underlying2 Try.underlying32 rfl (wrap_u64 _)) ?_
    refine TA.take 22 rfl rfl rfl rfl (by kernel_rfl) (by kernel_rfl) (by kernel_rfl) rfl (by kernel_rfl) (by kernel_rfl) (fun _ _ _ h => h) (Y.bin rfl rfl rfl br_ltI) ?_
    refine TA.is true (by (rw [decide_eq_true_eq, hm]; exact Classical.not_not.1 fun h2 => h ⟨(show S.tset = true by simpa using g5_5), h2⟩)) ?_
    refine TA.take 23 rfl rfl rfl rfl (by kernel_rfl) (by kernel_rfl) (by kernel_rfl) rfl (by kernel_rfl) (by kernel_rfl) (fun _ _ _ h => h) (Y.pick_f rfl rfl rfl) ?_
    refine TA.take 24 rfl rfl rfl rfl (by kernel_rfl) (by kernel_rfl) (by kernel_rfl) rfl (by kernel_rfl) (by kernel_rfl) (fun _ _ _ h => h) (Y.assign rfl rfl) ?_
    refine TA.done (by kernel_rfl) ?_
    refine TQ.next ?_
    refine TC.cond_t rfl ?_
    refine TC.seq ?_
    refine TC.region ?_
    refine TL.val rfl rfl rfl (Y.assign rfl rfl) ?_
    refine TL.nil ?_
    refine TQ.next ?_
    refine TC.ret ?_
    refine TQ.block_ret ?_
    refine TQ.then_ret ?_
    refine TQ.scope_ret ?_
    refine TQ.retE (res1 rfl rfl) (⟨rfl, rfl⟩) ?_
    exact ett
theorem Tick_over (h : (S.clocked now).due) (hf : S.fires = 8) (L : List SA) : Fn Try.prog 20 [pt b 0, vI now] (aB b p S :: L) (fun v L' => v = .slice none 0 0 ∧ L' = aB b p (S.clocked now).over :: L) := by
  have hm : S.delay % 18446744073709551616 = S.delay := Int.emod_eq_of_lt (by omega) (by omega)
  refine Fn.of (N := 111) Try.func20 rfl rfl ?_
  intro Xh
  refine TC.seq ?_
  refine TC.region ?_
  refine TL.val rfl rfl rfl (Y.assign rfl rfl) ?_
  refine TL.nil ?_
  refine TQ.next ?_
  refine TC.scope ?_
  refine TC.seq ?_
  refine TC.seq ?_
  refine TC.region ?_
  refine TL.val rfl rfl rfl (Y.move rfl rfl) ?_
  refine TL.val rfl rfl rfl (by first | exact Y.eqNilP rfl Try.underlying26 rfl rfl | exact Y.eqNil0 rfl Try.underlying26 rfl rfl) ?_
  refine TL.nil ?_
  refine TQ.next ?_
  refine TC.cond_f rfl ?_
  refine TC.skip ?_
  refine TQ.next ?_
  refine TC.seq ?_
  refine TC.region ?_
  refine TL.val rfl rfl rfl (Y.move rfl rfl) ?_
  refine TL.val rfl rfl rfl (Y.move rfl rfl) ?_
  refine TL.val rfl rfl rfl (Y.nilCheck rfl rfl) ?_
  refine TL.val rfl rfl rfl (by first | exact Y.fieldAddrJ rfl fo68_11 rfl nqq | exact Y.fieldAddr rfl fo68_11 rfl nqq) ?_
  refine TL.val rfl rfl rfl (Y.load rfl sc2 rfl celN) ?_
  refine TL.as (vI S.clock) (by rfl) ?_
  refine TL.val rfl rfl rfl (Y.move rfl rfl) ?_
  refine TL.val rfl rfl rfl (Y.maxI rfl rfl rfl) ?_
  refine TL.as (vI (max S.clock now)) (by rfl) ?_
  refine TL.val rfl rfl rfl (Y.nilCheck rfl rfl) ?_
  refine TL.val rfl rfl rfl (by first | exact Y.fieldAddrJ rfl fo68_11 rfl nqq | exact Y.fieldAddr rfl fo68_11 rfl nqq) ?_
  refine TL.eff0 rfl rfl (X.store (cs' := asC p (S.clocked now)) rfl (by kernel_rfl) rfl rfl rfl pul (by show 11 < 17; decide) rfl) ?_
  rintro _ _ rfl
  refine TL.nil ?_
  refine TQ.next ?_
  refine TC.seq ?_
  refine TC.region ?_
  refine TL.val rfl rfl rfl (Y.move rfl rfl) ?_
  refine TL.val rfl rfl rfl (Y.nilCheck rfl rfl) ?_
  refine TL.val rfl rfl rfl (by first | exact Y.fieldAddrJ rfl fo68_12 rfl nqq | exact Y.fieldAddr rfl fo68_12 rfl nqq) ?_
  refine TL.val rfl rfl rfl (Y.assign rfl rfl) ?_
  refine TL.nil ?_
  refine TQ.next ?_
  refine TC.seq ?_
  refine TC.block ?_
  refine TC.seq ?_
  refine TC.draws 25 _ (by kernel_rfl) (by kernel_rfl) (fun _ h => h) ?_
  refine TA.take 0 rfl rfl rfl rfl (by kernel_rfl) (by kernel_rfl) (by kernel_rfl) rfl (by kernel_rfl) (by kernel_rfl) (fun _ _ _ h => h) (Y.move rfl rfl) ?_
  refine TA.take 1 rfl rfl rfl rfl (by kernel_rfl) (by kernel_rfl) (by kernel_rfl) rfl (by kernel_rfl) (by kernel_rfl) (fun _ _ _ h => h) (Y.nilCheck rfl rfl) ?_
  refine TA.take 2 rfl rfl rfl rfl (by kernel_rfl) (by kernel_rfl) (by kernel_rfl) rfl (by kernel_rfl) (by kernel_rfl) (fun _ _ _ h => h) (by first | exact Y.fieldAddrJ rfl fo66_0 rfl nqq | exact Y.fieldAddr rfl fo66_0 rfl nqq) ?_
  refine TA.take 3 rfl rfl rfl rfl (by kernel_rfl) (by kernel_rfl) (by kernel_rfl) rfl (by kernel_rfl) (by kernel_rfl) (fun _ _ _ h => h) (Y.load rfl sc4 rfl celD) ?_
  refine TA.as (vB S.tset) (by rfl) ?_
  refine TA.take 4 rfl rfl rfl rfl (by kernel_rfl) (by kernel_rfl) (by kernel_rfl) rfl (by kernel_rfl) (by kernel_rfl) (fun _ _ _ h => h) (Y.not rfl rfl) ?_
  refine TA.is false (by (rw [show S.tset = true from h.1]; rfl)) ?_
  refine TA.take 5 rfl rfl rfl rfl (by kernel_rfl) (by kernel_rfl) (by kernel_rfl) rfl (by kernel_rfl) (by kernel_rfl) (fun _ _ _ h => h) (Y.move rfl rfl) ?_
  refine TA.take 6 rfl rfl rfl rfl (by kernel_rfl) (by kernel_rfl) (by kernel_rfl) rfl (by kernel_rfl) (by kernel_rfl) (fun _ _ _ h => h) (Y.move rfl rfl) ?_
  refine TA.take 7 rfl rfl rfl rfl (by kernel_rfl) (by kernel_rfl) (by kernel_rfl) rfl (by kernel_rfl) (by kernel_rfl) (fun _ _ _ h => h) (Y.nilCheck rfl rfl) ?_
  refine TA.take 8 rfl rfl rfl rfl (by kernel_rfl) (by kernel_rfl) (by kernel_rfl) rfl (by kernel_rfl) (by kernel_rfl) (fun _ _ _ h => h) (by first | exact Y.fieldAddrJ rfl fo68_11 rfl nqq | exact Y.fieldAddr rfl fo68_11 rfl nqq) ?_
  refine TA.take 9 rfl rfl rfl rfl (by kernel_rfl) (by kernel_rfl) (by kernel_rfl) rfl (by kernel_rfl) (by kernel_rfl) (fun _ _ _ h => h) (Y.load rfl sc2 rfl celN) ?_
  refine TA.as (vI (max S.clock now)) (by rfl) ?_
  refine TA.take 10 rfl rfl rfl rfl (by kernel_rfl) (by kernel_rfl) (by kernel_rfl) rfl (by kernel_rfl) (by kernel_rfl) (fun _ _ _ h => h) (Y.conv (m := (max S.clock now) % 18446744073709551616) rfl Try.underlying2 Try.underlying32 rfl (wrap_u64 _)) ?_
  refine TA.take 11 rfl rfl rfl rfl (by kernel_rfl) (by kernel_rfl) (by kernel_rfl) rfl (by kernel_rfl) (by kernel_rfl) (fun _ _ _ h => h) (Y.move rfl rfl) ?_
  refine TA.take 12 rfl rfl rfl rfl (by kernel_rfl) (by kernel_rfl) (by kernel_rfl) rfl (by kernel_rfl) (by kernel_rfl) (fun _ _ _ h => h) (Y.nilCheck rfl rfl) ?_
  refine TA.take 13 rfl rfl rfl rfl (by kernel_rfl) (by kernel_rfl) (by kernel_rfl) rfl (by kernel_rfl) (by kernel_rfl) (fun _ _ _ h => h) (by first | exact Y.fieldAddrJ rfl fo66_1 rfl nqq | exact Y.fieldAddr rfl fo66_1 rfl nqq) ?_
  refine TA.take 14 rfl rfl rfl rfl (by kernel_rfl) (by kernel_rfl) (by kernel_rfl) rfl (by kernel_rfl) (by kernel_rfl) (fun _ _ _ h => h) (Y.load rfl sc2 rfl celN) ?_
  refine TA.as (vI S.moment) (by rfl) ?_
  refine TA.take 15 rfl rfl rfl rfl (by kernel_rfl) (by kernel_rfl) (by kernel_rfl) rfl (by kernel_rfl) (by kernel_rfl) (fun _ _ _ h => h) (Y.conv (m := S.moment % 18446744073709551616) rfl Try.underlying2 Try.underlying32 rfl (wrap_u64 _)) ?_
  refine TA.take 16 rfl rfl rfl rfl (by kernel_rfl) (by kernel_rfl) (by kernel_rfl) rfl (by kernel_rfl) (by kernel_rfl) (fun _ _ _ h => h) (Y.bin rfl rfl rfl br_subU) ?_
  refine TA.take 17 rfl rfl rfl rfl (by kernel_rfl) (by kernel_rfl) (by kernel_rfl) rfl (by kernel_rfl) (by kernel_rfl) (fun _ _ _ h => h) (Y.move rfl rfl) ?_
  refine TA.take 18 rfl rfl rfl rfl (by kernel_rfl) (by kernel_rfl) (by kernel_rfl) rfl (by kernel_rfl) (by kernel_rfl) (fun _ _ _ h => h) (Y.nilCheck rfl rfl) ?_
  refine TA.take 19 rfl rfl rfl rfl (by kernel_rfl) (by kernel_rfl) (by kernel_rfl) rfl (by kernel_rfl) (by kernel_rfl) (fun _ _ _ h => h) (by first | exact Y.fieldAddrJ rfl fo66_2 rfl nqq | exact Y.fieldAddr rfl fo66_2 rfl nqq) ?_
  refine TA.take 20 rfl rfl rfl rfl (by kernel_rfl) (by kernel_rfl) (by kernel_rfl) rfl (by kernel_rfl) (by kernel_rfl) (fun _ _ _ h => h) (Y.load rfl sc2 rfl celN) ?_
  refine TA.as (vI S.delay) (by rfl) ?_
  refine TA.take 21 rfl rfl rfl rfl (by kernel_rfl) (by kernel_rfl) (by kernel_rfl) rfl (by kernel_rfl) (by kernel_rfl) (fun _ _ _ h => h) (Y.conv (m := S.delay % 18446744073709551616) rfl Try.underlying2 Try.underlying32 rfl (wrap_u64 _)) ?_
  refine TA.take 22 rfl rfl rfl rfl (by kernel_rfl) (by kernel_rfl) (by kernel_rfl) rfl (by kernel_rfl) (by kernel_rfl) (fun _ _ _ h => h) (Y.bin rfl rfl rfl br_ltI) ?_
  refine TA.is false (by (rw [decide_eq_false_iff_not, hm]; exact h.2)) ?_
  refine TA.take 23 rfl rfl rfl rfl (by kernel_rfl) (by kernel_rfl) (by kernel_rfl) rfl (by kernel_rfl) (by kernel_rfl) (fun _ _ _ h => h) (Y.pick_f rfl rfl rfl) ?_
  refine TA.take 24 rfl rfl rfl rfl (by kernel_rfl) (by kernel_rfl) (by kernel_rfl) rfl (by kernel_rfl) (by kernel_rfl) (fun _ _ _ h => h) (Y.assign rfl rfl) ?_
  refine TA.done (by kernel_rfl) ?_
  refine TQ.next ?_
  refine TC.cond_f rfl ?_
  refine TC.seq ?_
  refine TC.region ?_
  refine TL.val rfl rfl rfl (Y.move rfl rfl) ?_
  refine TL.val rfl rfl rfl (Y.nilCheck rfl rfl) ?_
  refine TL.val rfl rfl rfl (by first | exact Y.fieldAddrJ rfl fo66_3 rfl nqq | exact Y.fieldAddr rfl fo66_3 rfl nqq) ?_
  refine TL.val rfl rfl rfl (Y.load rfl sc3 rfl celN) ?_
  refine TL.as (vN S.fires) (by rfl) ?_
  refine TL.val rfl rfl rfl (Y.bin rfl rfl rfl (br_eqN (n := 8))) ?_
  refine TL.is true (by (simpa using hf)) ?_
  refine TL.val rfl rfl rfl (Y.assign rfl rfl) ?_
  refine TL.nil ?_
  refine TQ.next ?_
  refine TC.cond_t rfl ?_
  refine TC.seq ?_
  refine TC.region ?_
  refine TL.val rfl rfl rfl (Y.move rfl rfl) ?_
  refine TL.val rfl rfl rfl (Y.move rfl rfl) ?_
  refine TL.val rfl rfl rfl (Y.nilCheck rfl rfl) ?_
  refine TL.val rfl rfl rfl (by first | exact Y.fieldAddrJ rfl fo68_3 rfl nqq | exact Y.fieldAddr rfl fo68_3 rfl nqq) ?_
  refine TL.eff0 rfl rfl (X.store (cs' := asC p { S.clocked now with state := 4 }) rfl (by kernel_rfl) rfl rfl rfl pul (by show 3 < 17; decide) rfl) ?_
  rintro _ _ rfl
  refine TL.val rfl rfl rfl (Y.nilCheck rfl rfl) ?_
  refine TL.val rfl rfl rfl (by first | exact Y.fieldAddrJ rfl fo66_0 rfl nqq | exact Y.fieldAddr rfl fo66_0 rfl nqq) ?_
  refine TL.eff0 rfl rfl (X.store (cs' := asC p (S.clocked now).over) rfl (by kernel_rfl) rfl rfl rfl pul (by show 12 < 17; decide) rfl) ?_
  rintro _ _ rfl
  refine TL.nil ?_
  refine TQ.next ?_
  refine TC.seq ?_
  refine TC.region ?_
  refine TL.val rfl rfl rfl (Y.assign rfl rfl) ?_
  refine TL.nil ?_
  refine TQ.next ?_
  refine TC.ret ?_
  refine TQ.block_ret ?_
  refine TQ.then_ret ?_
  refine TQ.scope_ret ?_
  refine TQ.retE (res1 rfl rfl) (⟨rfl, rfl⟩) ?_
  exact ett
theorem Tick_shake (h : (S.clocked now).due) (hf : S.fires ≠ 8) (hf9 : S.fires ≤ 8) (h3 : S.state ≠ 3) (hsk : S.shake.length ≤ 1000) (L : List SA) : Fn Try.prog 20 [pt b 0, vI now] (aB b p S :: aH p S :: L)
    (fun v L' => ∃ o : Sl Bs, v = o.v ∧ o.l.map (·.l) = [S.shake] ∧ L' = SA.dat o :: aB b p (S.clocked now).fired :: aH p S :: L) := by
  have hm : S.delay % 18446744073709551616 = S.delay := Int.emod_eq_of_lt (by omega) (by omega)
  refine Fn.of (N := 111) Try.func20 rfl rfl ?_
  intro Xh
  refine TC.seq ?_
  refine TC.region ?_
  refine TL.val rfl rfl rfl (Y.assign rfl rfl) ?_
  refine TL.nil ?_
  refine TQ.next ?_
  refine TC.scope ?_
  refine TC.seq ?_
  refine TC.seq ?_
  refine TC.region ?_
  refine TL.val rfl rfl rfl (Y.move rfl rfl) ?_
  refine TL.val rfl rfl rfl (by first | exact Y.eqNilP rfl Try.underlying26 rfl rfl | exact Y.eqNil0 rfl Try.underlying26 rfl rfl) ?_
  refine TL.nil ?_
  refine TQ.next ?_
  refine TC.cond_f rfl ?_
  refine TC.skip ?_
  refine TQ.next ?_
  refine TC.seq ?_
  refine TC.region ?_
  refine TL.val rfl rfl rfl (Y.move rfl rfl) ?_
  refine TL.val rfl rfl rfl (Y.move rfl rfl) ?_
  refine TL.val rfl rfl rfl (Y.nilCheck rfl rfl) ?_
  refine TL.val rfl rfl rfl (by first | exact Y.fieldAddrJ rfl fo68_11 rfl nqq | exact Y.fieldAddr rfl fo68_11 rfl nqq) ?_
  refine TL.val rfl rfl rfl (Y.load rfl sc2 rfl celN) ?_
  refine TL.as (vI S.clock) (by rfl) ?_
  refine TL.val rfl rfl rfl (Y.move rfl rfl) ?_
  refine TL.val rfl rfl rfl (Y.maxI rfl rfl rfl) ?_
  refine TL.as (vI (max S.clock now)) (by rfl) ?_
  refine TL.val rfl rfl rfl (Y.nilCheck rfl rfl) ?_
  refine TL.val rfl rfl rfl (by first | exact Y.fieldAddrJ rfl fo68_11 rfl nqq | exact Y.fieldAddr rfl fo68_11 rfl nqq) ?_
  refine TL.eff0 rfl rfl (X.store (cs' := asC p (S.clocked now)) rfl (by kernel_rfl) rfl rfl rfl pul (by show 11 < 17; decide) rfl) ?_
  rintro _ _ rfl
  refine TL.nil ?_
  refine TQ.next ?_
  refine TC.seq ?_
  refine TC.region ?_
  refine TL.val rfl rfl rfl (Y.move rfl rfl) ?_
  refine TL.val rfl rfl rfl (Y.nilCheck rfl rfl) ?_
  refine TL.val rfl rfl rfl (by first | exact Y.fieldAddrJ rfl fo68_12 rfl nqq | exact Y.fieldAddr rfl fo68_12 rfl nqq) ?_
  refine TL.val rfl rfl rfl (Y.assign rfl rfl) ?_
  refine TL.nil ?_
  refine TQ.next ?_
  refine TC.seq ?_
  refine TC.block ?_
  refine TC.seq ?_
  refine TC.draws 25 _ (by kernel_rfl) (by kernel_rfl) (fun _ h => h) ?_
  refine TA.take 0 rfl rfl rfl rfl (by kernel_rfl) (by kernel_rfl) (by kernel_rfl) rfl (by kernel_rfl) (by kernel_rfl) (fun _ _ _ h => h) (Y.move rfl rfl) ?_
  refine TA.take 1 rfl rfl rfl rfl (by kernel_rfl) (by kernel_rfl) (by kernel_rfl) rfl (by kernel_rfl) (by kernel_rfl) (fun _ _ _ h => h) (Y.nilCheck rfl rfl) ?_
  refine TA.take 2 rfl rfl rfl rfl (by kernel_rfl) (by kernel_rfl) (by kernel_rfl) rfl (by kernel_rfl) (by kernel_rfl) (fun _ _ _ h => h) (by first | exact Y.fieldAddrJ rfl fo66_0 rfl nqq | exact Y.fieldAddr rfl fo66_0 rfl nqq) ?_
  refine TA.take 3 rfl rfl rfl rfl (by kernel_rfl) (by kernel_rfl) (by kernel_rfl) rfl (by kernel_rfl) (by kernel_rfl) (fun _ _ _ h => h) (Y.load rfl sc4 rfl celD) ?_
  refine TA.as (vB S.tset) (by rfl) ?_
  refine TA.take 4 rfl rfl rfl rfl (by kernel_rfl) (by kernel_rfl) (by kernel_rfl) rfl (by kernel_rfl) (by kernel_rfl) (fun _ _ _ h => h) (Y.not rfl rfl) ?_
  refine TA.is false (by (rw [show S.tset = true from h.1]; rfl)) ?_
  refine TA.take 5 rfl rfl rfl rfl (by kernel_rfl) (by kernel_rfl) (by kernel_rfl) rfl (by kernel_rfl) (by kernel_rfl) (fun _ _ _ h => h) (Y.move rfl rfl) ?_
  refine TA.take 6 rfl rfl rfl rfl (by kernel_rfl) (by kernel_rfl) (by kernel_rfl) rfl (by kernel_rfl) (by kernel_rfl) (fun _ _ _ h => h) (Y.move rfl rfl) ?_
  refine TA.take 7 rfl rfl rfl rfl (by kernel_rfl) (by kernel_rfl) (by kernel_rfl) rfl (by kernel_rfl) (by kernel_rfl) (fun _ _ _ h => h) (Y.nilCheck rfl rfl) ?_
  refine TA.take 8 rfl rfl rfl rfl (by kernel_rfl) (by kernel_rfl) (by kernel_rfl) rfl (by kernel_rfl) (by kernel_rfl) (fun _ _ _ h => h) (by first | exact Y.fieldAddrJ rfl fo68_11 rfl nqq | exact Y.fieldAddr rfl fo68_11 rfl nqq) ?_
  refine TA.take 9 rfl rfl rfl rfl (by kernel_rfl) (by kernel_rfl) (by kernel_rfl) rfl (by kernel_rfl) (by kernel_rfl) (fun _ _ _ h => h) (Y.load rfl sc2 rfl celN) ?_
  refine TA.as (vI (max S.clock now)) (by rfl) ?_
  refine TA.take 10 rfl rfl rfl rfl (by kernel_rfl) (by kernel_rfl) (by kernel_rfl) rfl (by kernel_rfl) (by kernel_rfl) (fun _ _ _ h => h) (Y.conv (m := (max S.clock now) % 18446744073709551616) rfl Try.underlying2 Try.underlying32 rfl (wrap_u64 _)) ?_
  refine TA.take 11 rfl rfl rfl rfl (by kernel_rfl) (by kernel_rfl) (by kernel_rfl) rfl (by kernel_rfl) (by kernel_rfl) (fun _ _ _ h => h) (Y.move rfl rfl) ?_
  refine TA.take 12 rfl rfl rfl rfl (by kernel_rfl) (by kernel_rfl) (by kernel_rfl) rfl (by kernel_rfl) (by kernel_rfl) (fun _ _ _ h => h) (Y.nilCheck rfl rfl) ?_
  refine TA.take 13 rfl rfl rfl rfl (by kernel_rfl) (by kernel_rfl) (by kernel_rfl) rfl (by kernel_rfl) (by kernel_rfl) (fun _ _ _ h => h) (by first | exact Y.fieldAddrJ rfl fo66_1 rfl nqq | exact Y.fieldAddr rfl fo66_1 rfl nqq) ?_
  refine TA.take 14 rfl rfl rfl rfl (by kernel_rfl) (by kernel_rfl) (by kernel_rfl) rfl (by kernel_rfl) (by kernel_rfl) (fun _ _ _ h => h) (Y.load rfl sc2 rfl celN) ?_
  refine TA.as (vI S.moment) (by rfl) ?_
  refine TA.take 15 rfl rfl rfl rfl (by kernel_rfl) (by kernel_rfl) (by kernel_rfl) rfl (by kernel_rfl) (by kernel_rfl) (fun _ _ _ h => h) (Y.conv (m := S.moment % 18446744073709551616) rfl Try.underlying2 Try.underlying32 rfl (wrap_u64 _)) ?_
  refine TA.take 16 rfl rfl rfl rfl (by kernel_rfl) (by kernel_rfl) (by kernel_rfl) rfl (by kernel_rfl) (by kernel_rfl) (fun _ _ _ h => h) (Y.bin rfl rfl rfl br_subU) ?_
  refine TA.take 17 rfl rfl rfl rfl (by kernel_rfl) (by kernel_rfl) (by kernel_rfl) rfl (by kernel_rfl) (by kernel_rfl) (fun _ _ _ h => h) (Y.move rfl rfl) ?_
  refine TA.take 18 rfl rfl rfl rfl (by kernel_rfl) (by kernel_rfl) (by kernel_rfl) rfl (by kernel_rfl) (by kernel_rfl) (fun _ _ _ h => h) (Y.nilCheck rfl rfl) ?_
  refine TA.take 19 rfl rfl rfl rfl (by kernel_rfl) (by kernel_rfl) (by kernel_rfl) rfl (by kernel_rfl) (by kernel_rfl) (fun _ _ _ h => h) (by first | exact Y.fieldAddrJ rfl fo66_2 rfl nqq | exact Y.fieldAddr rfl fo66_2 rfl nqq) ?_
  refine TA.take 20 rfl rfl rfl rfl (by kernel_rfl) (by kernel_rfl) (by kernel_rfl) rfl (by kernel_rfl) (by kernel_rfl) (fun _ _ _ h => h) (Y.load rfl sc2 rfl celN) ?_
  refine TA.as (vI S.delay) (by rfl) ?_
  refine TA.take 21 rfl rfl rfl rfl (by kernel_rfl) (by kernel_rfl) (by kernel_rfl) rfl (by kernel_rfl) (by kernel_rfl) (fun _ _ _ h => h) (Y.conv (m := S.delay % 18446744073709551616) rfl Try.underlying2 Try.underlying32 rfl (wrap_u64 _)) ?_
  refine TA.take 22 rfl rfl rfl rfl (by kernel_rfl) (by kernel_rfl) (by kernel_rfl) rfl (by kernel_rfl) (by kernel_rfl) (fun _ _ _ h => h) (Y.bin rfl rfl rfl br_ltI) ?_
  refine TA.is false (by (rw [decide_eq_false_iff_not, hm]; exact h.2)) ?_
  refine TA.take 23 rfl rfl rfl rfl (by kernel_rfl) (by kernel_rfl) (by kernel_rfl) rfl (by kernel_rfl) (by kernel_rfl) (fun _ _ _ h => h) (Y.pick_f rfl rfl rfl) ?_
  refine TA.take 24 rfl rfl rfl rfl (by kernel_rfl) (by kernel_rfl) (by kernel_rfl) rfl (by kernel_rfl) (by kernel_rfl) (fun _ _ _ h => h) (Y.assign rfl rfl) ?_
  refine TA.done (by kernel_rfl) ?_
  refine TQ.next ?_
  refine TC.cond_f rfl ?_
  refine TC.seq ?_
  refine TC.region ?_
  refine TL.val rfl rfl rfl (Y.move rfl rfl) ?_
  refine TL.val rfl rfl rfl (Y.nilCheck rfl rfl) ?_
  refine TL.val rfl rfl rfl (by first | exact Y.fieldAddrJ rfl fo66_3 rfl nqq | exact Y.fieldAddr rfl fo66_3 rfl nqq) ?_
  refine TL.val rfl rfl rfl (Y.load rfl sc3 rfl celN) ?_
  refine TL.as (vN S.fires) (by rfl) ?_
  refine TL.val rfl rfl rfl (Y.bin rfl rfl rfl (br_eqN (n := 8))) ?_
  refine TL.is false (by (simpa using hf)) ?_
  refine TL.val rfl rfl rfl (Y.assign rfl rfl) ?_
  refine TL.nil ?_
  refine TQ.next ?_
  refine TC.cond_f rfl ?_
  refine TC.skip ?_
  refine TQ.block_normal ?_
  refine TQ.next ?_
  refine TC.seq ?_
  refine TC.draws 18 _ (by kernel_rfl) (by kernel_rfl) (fun _ h => h) ?_
  refine TA.take 0 rfl rfl rfl rfl (by kernel_rfl) (by kernel_rfl) (by kernel_rfl) rfl (by kernel_rfl) (by kernel_rfl) (fun _ _ _ h => h) (Y.move rfl rfl) ?_
  refine TA.take 1 rfl rfl rfl rfl (by kernel_rfl) (by kernel_rfl) (by kernel_rfl) rfl (by kernel_rfl) (by kernel_rfl) (fun _ _ _ h => h) (Y.move rfl rfl) ?_
  refine TA.take 2 rfl rfl rfl rfl (by kernel_rfl) (by kernel_rfl) (by kernel_rfl) rfl (by kernel_rfl) (by kernel_rfl) (fun _ _ _ h => h) (Y.nilCheck rfl rfl) ?_
  refine TA.take 3 rfl rfl rfl rfl (by kernel_rfl) (by kernel_rfl) (by kernel_rfl) rfl (by kernel_rfl) (by kernel_rfl) (fun _ _ _ h => h) (by first | exact Y.fieldAddrJ rfl fo68_11 rfl nqq | exact Y.fieldAddr rfl fo68_11 rfl nqq) ?_
  refine TA.take 4 rfl rfl rfl rfl (by kernel_rfl) (by kernel_rfl) (by kernel_rfl) rfl (by kernel_rfl) (by kernel_rfl) (fun _ _ _ h => h) (Y.load rfl sc2 rfl celN) ?_
  refine TA.as (vI (max S.clock now)) (by rfl) ?_
  refine TA.take 5 rfl rfl rfl rfl (by kernel_rfl) (by kernel_rfl) (by kernel_rfl) rfl (by kernel_rfl) (by kernel_rfl) (fun _ _ _ h => h) (Y.move rfl rfl) ?_
  refine TA.take 6 rfl rfl rfl rfl (by kernel_rfl) (by kernel_rfl) (by kernel_rfl) rfl (by kernel_rfl) (by kernel_rfl) (fun _ _ _ h => h) (Y.nilCheck rfl rfl) ?_
  refine TA.take 7 rfl rfl rfl rfl (by kernel_rfl) (by kernel_rfl) (by kernel_rfl) rfl (by kernel_rfl) (by kernel_rfl) (fun _ _ _ h => h) (by first | exact Y.fieldAddrJ rfl fo66_2 rfl nqq | exact Y.fieldAddr rfl fo66_2 rfl nqq) ?_
  refine TA.take 8 rfl rfl rfl rfl (by kernel_rfl) (by kernel_rfl) (by kernel_rfl) rfl (by kernel_rfl) (by kernel_rfl) (fun _ _ _ h => h) (Y.load rfl sc2 rfl celN) ?_
  refine TA.as (vI S.delay) (by rfl) ?_
  refine TA.take 9 rfl rfl rfl rfl (by kernel_rfl) (by kernel_rfl) (by kernel_rfl) rfl (by kernel_rfl) (by kernel_rfl) (fun _ _ _ h => h) (Y.bin rfl rfl rfl (br_mulI (m := 2) (n := S.delay) (by omega) (by omega))) ?_
  refine TA.take 10 rfl rfl rfl rfl (by kernel_rfl) (by kernel_rfl) (by kernel_rfl) rfl (by kernel_rfl) (by kernel_rfl) (fun _ _ _ h => h) (Y.minI (n := 8000) rfl rfl rfl) ?_
  refine TA.as (vI (min (2 * S.delay) 8000)) (by rfl) ?_
  refine TA.take 11 rfl rfl rfl rfl (by kernel_rfl) (by kernel_rfl) (by kernel_rfl) rfl (by kernel_rfl) (by kernel_rfl) (fun _ _ _ h => h) (Y.move rfl rfl) ?_
  refine TA.take 12 rfl rfl rfl rfl (by kernel_rfl) (by kernel_rfl) (by kernel_rfl) rfl (by kernel_rfl) (by kernel_rfl) (fun _ _ _ h => h) (Y.nilCheck rfl rfl) ?_
  refine TA.take 13 rfl rfl rfl rfl (by kernel_rfl) (by kernel_rfl) (by kernel_rfl) rfl (by kernel_rfl) (by kernel_rfl) (fun _ _ _ h => h) (by first | exact Y.fieldAddrJ rfl fo66_3 rfl nqq | exact Y.fieldAddr rfl fo66_3 rfl nqq) ?_
  refine TA.take 14 rfl rfl rfl rfl (by kernel_rfl) (by kernel_rfl) (by kernel_rfl) rfl (by kernel_rfl) (by kernel_rfl) (fun _ _ _ h => h) (Y.load rfl sc3 rfl celN) ?_
  refine TA.as (vN S.fires) (by rfl) ?_
  refine TA.take 15 rfl rfl rfl rfl (by kernel_rfl) (by kernel_rfl) (by kernel_rfl) rfl (by kernel_rfl) (by kernel_rfl) (fun _ _ _ h => h) (Y.bin rfl rfl rfl (br_addN (n := 1) (by omega))) ?_
  refine TA.take 16 rfl rfl rfl rfl (by kernel_rfl) (by kernel_rfl) (by kernel_rfl) rfl (by kernel_rfl) (by kernel_rfl) (fun _ _ _ h => h) (Y.buildS (cells := #[vB true, vI (max S.clock now), vI (min (2 * S.delay) 8000), vN (S.fires + 1)]) rfl rfl pl66 zc66 (by kernel_rfl)) ?_
  refine TA.take 17 rfl rfl rfl rfl (by kernel_rfl) (by kernel_rfl) (by kernel_rfl) rfl (by kernel_rfl) (by kernel_rfl) (fun _ _ _ h => h) (Y.nilCheck rfl rfl) ?_
  refine TA.one0 18 (by kernel_rfl) rfl rfl rfl (X.storeAgg (cs' := asC p (S.clocked now).fired) rfl (by kernel_rfl) rfl rfl rfl (allOne (by rfl)) pul (by show 12 + 4 ≤ 17; decide) rfl) ?_
  rintro _ _ rfl
  refine ⟨(Or.inl (by kernel_rfl)), ?_⟩
  refine TA.done (by kernel_rfl) ?_
  refine TQ.next ?_
  refine TC.seq ?_
  refine TC.seq ?_
  refine TC.region ?_
  refine TL.val rfl rfl rfl (Y.move rfl rfl) ?_
  refine TL.val rfl rfl rfl (Y.nilCheck rfl rfl) ?_
  refine TL.val rfl rfl rfl (by first | exact Y.fieldAddrJ rfl fo68_3 rfl nqq | exact Y.fieldAddr rfl fo68_3 rfl nqq) ?_
  refine TL.val rfl rfl rfl (Y.load rfl sc3 rfl celN) ?_
  refine TL.as (vN S.state) (by rfl) ?_
  refine TL.val rfl rfl rfl (Y.bin rfl rfl rfl (br_neN (n := 3))) ?_
  refine TL.is true (by (simpa using h3)) ?_
  refine TL.nil ?_
  refine TQ.next ?_
  refine TC.cond_t rfl ?_
  refine TC.seq ?_
  refine TC.region ?_
  refine TL.val rfl rfl rfl (Y.move rfl rfl) ?_
  refine TL.val rfl rfl rfl (Y.nilCheck rfl rfl) ?_
  refine TL.val rfl rfl rfl (by first | exact Y.fieldAddrJ rfl fo68_13 rfl nqq | exact Y.fieldAddr rfl fo68_13 rfl nqq) ?_
  refine TL.val rfl rfl rfl (Y.load rfl sc23 rfl celD) ?_
  refine TL.as (.slice p.ha S.shake.length p.hc) (by rfl) ?_
  refine TL.eff rfl rfl rfl (X.call rfl Try.func25 (by kernel_rfl) rfl rfl (Fn.preE (by repeat first | (with_reducible apply Ent.refl) | (apply Ent.cons; case h => first | (with_reducible (repeat first | apply Pull.here | apply Pull.there); done) | (repeat first | apply Pull.here | apply Pull.there))) (rd.Clone_fn _ _ _ S.shake rfl (by omega) _))) ?_
  rintro _ _ ⟨a86, c86, rfl, rfl⟩
  refine TL.eff rfl rfl rfl (X.lit rfl el24 rfl rfl rfl (by decide) rfl) ?_
  rintro _ _ ⟨g87, rfl, rfl⟩
  refine TL.val rfl rfl rfl (Y.assign rfl rfl) ?_
  refine TL.nil ?_
  refine TQ.next ?_
  refine TC.ret ?_
  refine TQ.then_ret ?_
  refine TQ.scope_ret ?_
  refine TQ.retE (res1 rfl rfl) (⟨⟨some ⟨g87, 0, none⟩, 1, [⟨a86, c86, S.shake⟩]⟩, rfl, rfl, rfl⟩) ?_
  exact (Ent.trans (Ent.one1 (a := a86) (g := g87) (l := S.shake) pul pul rfl) ett)
set_option maxHeartbeats 2000000 in
theorem Tick_again (h : (S.clocked now).due) (hf : S.fires ≠ 8) (hf9 : S.fires ≤ 8) (h3 : S.state = 3) (hsh : Short S) (hs : S.sent ≤ S.queue.length) (h16 : S.sent ≤ 16) (L : List SA) : Fn Try.prog 20 [pt b 0, vI now] (aB b p S :: aQ p S :: aD S :: L)
    (fun v L' => ∃ o : Sl Bs, v = o.v ∧ o.l.map (·.l) = (abs S).againOut S.sent ∧ L' = SA.dat o :: aB b p (S.clocked now).fired :: aQ p S :: aD S :: L) := by
  have hm : S.delay % 18446744073709551616 = S.delay := Int.emod_eq_of_lt (by omega) (by omega)
  refine Fn.of (N := 111) Try.func20 rfl rfl ?_
  intro Xh
  refine TC.seq ?_
  refine TC.region ?_
  refine TL.val rfl rfl rfl (Y.assign rfl rfl) ?_
  refine TL.nil ?_
  refine TQ.next ?_
  refine TC.scope ?_
  refine TC.seq ?_
  refine TC.seq ?_
  refine TC.region ?_
  refine TL.val rfl rfl rfl (Y.move rfl rfl) ?_
  refine TL.val rfl rfl rfl (by first | exact Y.eqNilP rfl Try.underlying26 rfl rfl | exact Y.eqNil0 rfl Try.underlying26 rfl rfl) ?_
  refine TL.nil ?_
  refine TQ.next ?_
  refine TC.cond_f rfl ?_
  refine TC.skip ?_
  refine TQ.next ?_
  refine TC.seq ?_
  refine TC.region ?_
  refine TL.val rfl rfl rfl (Y.move rfl rfl) ?_
  refine TL.val rfl rfl rfl (Y.move rfl rfl) ?_
  refine TL.val rfl rfl rfl (Y.nilCheck rfl rfl) ?_
  refine TL.val rfl rfl rfl (by first | exact Y.fieldAddrJ rfl fo68_11 rfl nqq | exact Y.fieldAddr rfl fo68_11 rfl nqq) ?_
  refine TL.val rfl rfl rfl (Y.load rfl sc2 rfl celN) ?_
  refine TL.as (vI S.clock) (by rfl) ?_
  refine TL.val rfl rfl rfl (Y.move rfl rfl) ?_
  refine TL.val rfl rfl rfl (Y.maxI rfl rfl rfl) ?_
  refine TL.as (vI (max S.clock now)) (by rfl) ?_
  refine TL.val rfl rfl rfl (Y.nilCheck rfl rfl) ?_
  refine TL.val rfl rfl rfl (by first | exact Y.fieldAddrJ rfl fo68_11 rfl nqq | exact Y.fieldAddr rfl fo68_11 rfl nqq) ?_
  refine TL.eff0 rfl rfl (X.store (cs' := asC p (S.clocked now)) rfl (by kernel_rfl) rfl rfl rfl pul (by show 11 < 17; decide) rfl) ?_
  rintro _ _ rfl
  refine TL.nil ?_
  refine TQ.next ?_
  refine TC.seq ?_
  refine TC.region ?_
  refine TL.val rfl rfl rfl (Y.move rfl rfl) ?_
  refine TL.val rfl rfl rfl (Y.nilCheck rfl rfl) ?_
  refine TL.val rfl rfl rfl (by first | exact Y.fieldAddrJ rfl fo68_12 rfl nqq | exact Y.fieldAddr rfl fo68_12 rfl nqq) ?_
  refine TL.val rfl rfl rfl (Y.assign rfl rfl) ?_
  refine TL.nil ?_
  refine TQ.next ?_
  refine TC.seq ?_
  refine TC.block ?_
  refine TC.seq ?_
  refine TC.draws 25 _ (by kernel_rfl) (by kernel_rfl) (fun _ h => h) ?_
  refine TA.take 0 rfl rfl rfl rfl (by kernel_rfl) (by kernel_rfl) (by kernel_rfl) rfl (by kernel_rfl) (by kernel_rfl) (fun _ _ _ h => h) (Y.move rfl rfl) ?_
  refine TA.take 1 rfl rfl rfl rfl (by kernel_rfl) (by kernel_rfl) (by kernel_rfl) rfl (by kernel_rfl) (by kernel_rfl) (fun _ _ _ h => h) (Y.nilCheck rfl rfl) ?_
  refine TA.take 2 rfl rfl rfl rfl (by kernel_rfl) (by kernel_rfl) (by kernel_rfl) rfl (by kernel_rfl) (by kernel_rfl) (fun _ _ _ h => h) (by first | exact Y.fieldAddrJ rfl fo66_0 rfl nqq | exact Y.fieldAddr rfl fo66_0 rfl nqq) ?_
  refine TA.take 3 rfl rfl rfl rfl (by kernel_rfl) (by kernel_rfl) (by kernel_rfl) rfl (by kernel_rfl) (by kernel_rfl) (fun _ _ _ h => h) (Y.load rfl sc4 rfl celD) ?_
  refine TA.as (vB S.tset) (by rfl) ?_
  refine TA.take 4 rfl rfl rfl rfl (by kernel_rfl) (by kernel_rfl) (by kernel_rfl) rfl (by kernel_rfl) (by kernel_rfl) (fun _ _ _ h => h) (Y.not rfl rfl) ?_
  refine TA.is false (by (rw [show S.tset = true from h.1]; rfl)) ?_
  refine TA.take 5 rfl rfl rfl rfl (by kernel_rfl) (by kernel_rfl) (by kernel_rfl) rfl (by kernel_rfl) (by kernel_rfl) (fun _ _ _ h => h) (Y.move rfl rfl) ?_
  refine TA.take 6 rfl rfl rfl rfl (by kernel_rfl) (by kernel_rfl) (by kernel_rfl) rfl (by kernel_rfl) (by kernel_rfl) (fun _ _ _ h => h) (Y.move rfl rfl) ?_
  refine TA.take 7 rfl rfl rfl rfl (by kernel_rfl) (by kernel_rfl) (by kernel_rfl) rfl (by kernel_rfl) (by kernel_rfl) (fun _ _ _ h => h) (Y.nilCheck rfl rfl) ?_
  refine TA.take 8 rfl rfl rfl rfl (by kernel_rfl) (by kernel_rfl) (by kernel_rfl) rfl (by kernel_rfl) (by kernel_rfl) (fun _ _ _ h => h) (by first | exact Y.fieldAddrJ rfl fo68_11 rfl nqq | exact Y.fieldAddr rfl fo68_11 rfl nqq) ?_
  refine TA.take 9 rfl rfl rfl rfl (by kernel_rfl) (by kernel_rfl) (by kernel_rfl) rfl (by kernel_rfl) (by kernel_rfl) (fun _ _ _ h => h) (Y.load rfl sc2 rfl celN) ?_
  refine TA.as (vI (max S.clock now)) (by rfl) ?_
  refine TA.take 10 rfl rfl rfl rfl (by kernel_rfl) (by kernel_rfl) (by kernel_rfl) rfl (by kernel_rfl) (by kernel_rfl) (fun _ _ _ h => h) (Y.conv (m := (max S.clock now) % 18446744073709551616) rfl Try.underlying2 Try.underlying32 rfl (wrap_u64 _)) ?_
  refine TA.take 11 rfl rfl rfl rfl (by kernel_rfl) (by kernel_rfl) (by kernel_rfl) rfl (by kernel_rfl) (by kernel_rfl) (fun _ _ _ h => h) (Y.move rfl rfl) ?_
  refine TA.take 12 rfl rfl rfl rfl (by kernel_rfl) (by kernel_rfl) (by kernel_rfl) rfl (by kernel_rfl) (by kernel_rfl) (fun _ _ _ h => h) (Y.nilCheck rfl rfl) ?_
  refine TA.take 13 rfl rfl rfl rfl (by kernel_rfl) (by kernel_rfl) (by kernel_rfl) rfl (by kernel_rfl) (by kernel_rfl) (fun _ _ _ h => h) (by first | exact Y.fieldAddrJ rfl fo66_1 rfl nqq | exact Y.fieldAddr rfl fo66_1 rfl nqq) ?_
  refine TA.take 14 rfl rfl rfl rfl (by kernel_rfl) (by kernel_rfl) (by kernel_rfl) rfl (by kernel_rfl) (by kernel_rfl) (fun _ _ _ h => h) (Y.load rfl sc2 rfl celN) ?_
  refine TA.as (vI S.moment) (by rfl) ?_
  refine TA.take 15 rfl rfl rfl rfl (by kernel_rfl) (by kernel_rfl) (by kernel_rfl) rfl (by kernel_rfl) (by kernel_rfl) (fun _ _ _ h => h) (Y.conv (m := S.moment % 18446744073709551616) rfl Try.underlying2 Try.underlying32 rfl (wrap_u64 _)) ?_
  refine TA.take 16 rfl rfl rfl rfl (by kernel_rfl) (by kernel_rfl) (by kernel_rfl) rfl (by kernel_rfl) (by kernel_rfl) (fun _ _ _ h => h) (Y.bin rfl rfl rfl br_subU) ?_
  refine TA.take 17 rfl rfl rfl rfl (by kernel_rfl) (by kernel_rfl) (by kernel_rfl) rfl (by kernel_rfl) (by kernel_rfl) (fun _ _ _ h => h) (Y.move rfl rfl) ?_
  refine TA.take 18 rfl rfl rfl rfl (by kernel_rfl) (by kernel_rfl) (by kernel_rfl) rfl (by kernel_rfl) (by kernel_rfl) (fun _ _ _ h => h) (Y.nilCheck rfl rfl) ?_
  refine TA.take 19 rfl rfl rfl rfl (by kernel_rfl) (by kernel_rfl) (by kernel_rfl) rfl (by kernel_rfl) (by kernel_rfl) (fun _ _ _ h => h) (by first | exact Y.fieldAddrJ rfl fo66_2 rfl nqq | exact Y.fieldAddr rfl fo66_2 rfl nqq) ?_
  refine TA.take 20 rfl rfl rfl rfl (by kernel_rfl) (by kernel_rfl) (by kernel_rfl) rfl (by kernel_rfl) (by kernel_rfl) (fun _ _ _ h => h) (Y.load rfl sc2 rfl celN) ?_
  refine TA.as (vI S.delay) (by rfl) ?_
  refine TA.take 21 rfl rfl rfl rfl (by kernel_rfl) (by kernel_rfl) (by kernel_rfl) rfl (by kernel_rfl) (by kernel_rfl) (fun _ _ _ h => h) (Y.conv (m := S.delay % 18446744073709551616) rfl Try.underlying2 Try.underlying32 rfl (wrap_u64 _)) ?_
  refine TA.take 22 rfl rfl rfl rfl (by kernel_rfl) (by kernel_rfl) (by kernel_rfl) rfl (by kernel_rfl) (by kernel_rfl) (fun _ _ _ h => h) (Y.bin rfl rfl rfl br_ltI) ?_
  refine TA.is false (by (rw [decide_eq_false_iff_not, hm]; exact h.2)) ?_
  refine TA.take 23 rfl rfl rfl rfl (by kernel_rfl) (by kernel_rfl) (by kernel_rfl) rfl (by kernel_rfl) (by kernel_rfl) (fun _ _ _ h => h) (Y.pick_f rfl rfl rfl) ?_
  refine TA.take 24 rfl rfl rfl rfl (by kernel_rfl) (by kernel_rfl) (by kernel_rfl) rfl (by kernel_rfl) (by kernel_rfl) (fun _ _ _ h => h) (Y.assign rfl rfl) ?_
  refine TA.done (by kernel_rfl) ?_
  refine TQ.next ?_
  refine TC.cond_f rfl ?_
  refine TC.seq ?_
  refine TC.region ?_
  refine TL.val rfl rfl rfl (Y.move rfl rfl) ?_
  refine TL.val rfl rfl rfl (Y.nilCheck rfl rfl) ?_
  refine TL.val rfl rfl rfl (by first | exact Y.fieldAddrJ rfl fo66_3 rfl nqq | exact Y.fieldAddr rfl fo66_3 rfl nqq) ?_
  refine TL.val rfl rfl rfl (Y.load rfl sc3 rfl celN) ?_
  refine TL.as (vN S.fires) (by rfl) ?_
  refine TL.val rfl rfl rfl (Y.bin rfl rfl rfl (br_eqN (n := 8))) ?_
  refine TL.is false (by (simpa using hf)) ?_
  refine TL.val rfl rfl rfl (Y.assign rfl rfl) ?_
  refine TL.nil ?_
  refine TQ.next ?_
  refine TC.cond_f rfl ?_
  refine TC.skip ?_
  refine TQ.block_normal ?_
  refine TQ.next ?_
  refine TC.seq ?_
  refine TC.draws 18 _ (by kernel_rfl) (by kernel_rfl) (fun _ h => h) ?_
  refine TA.take 0 rfl rfl rfl rfl (by kernel_rfl) (by kernel_rfl) (by kernel_rfl) rfl (by kernel_rfl) (by kernel_rfl) (fun _ _ _ h => h) (Y.move rfl rfl) ?_
  refine TA.take 1 rfl rfl rfl rfl (by kernel_rfl) (by kernel_rfl) (by kernel_rfl) rfl (by kernel_rfl) (by kernel_rfl) (fun _ _ _ h => h) (Y.move rfl rfl) ?_
  refine TA.take 2 rfl rfl rfl rfl (by kernel_rfl) (by kernel_rfl) (by kernel_rfl) rfl (by kernel_rfl) (by kernel_rfl) (fun _ _ _ h => h) (Y.nilCheck rfl rfl) ?_
  refine TA.take 3 rfl rfl rfl rfl (by kernel_rfl) (by kernel_rfl) (by kernel_rfl) rfl (by kernel_rfl) (by kernel_rfl) (fun _ _ _ h => h) (by first | exact Y.fieldAddrJ rfl fo68_11 rfl nqq | exact Y.fieldAddr rfl fo68_11 rfl nqq) ?_
  refine TA.take 4 rfl rfl rfl rfl (by kernel_rfl) (by kernel_rfl) (by kernel_rfl) rfl (by kernel_rfl) (by kernel_rfl) (fun _ _ _ h => h) (Y.load rfl sc2 rfl celN) ?_
  refine TA.as (vI (max S.clock now)) (by rfl) ?_
  refine TA.take 5 rfl rfl rfl rfl (by kernel_rfl) (by kernel_rfl) (by kernel_rfl) rfl (by kernel_rfl) (by kernel_rfl) (fun _ _ _ h => h) (Y.move rfl rfl) ?_
  refine TA.take 6 rfl rfl rfl rfl (by kernel_rfl) (by kernel_rfl) (by kernel_rfl) rfl (by kernel_rfl) (by kernel_rfl) (fun _ _ _ h => h) (Y.nilCheck rfl rfl) ?_
  refine TA.take 7 rfl rfl rfl rfl (by kernel_rfl) (by kernel_rfl) (by kernel_rfl) rfl (by kernel_rfl) (by kernel_rfl) (fun _ _ _ h => h) (by first | exact Y.fieldAddrJ rfl fo66_2 rfl nqq | exact Y.fieldAddr rfl fo66_2 rfl nqq) ?_
  refine TA.take 8 rfl rfl rfl rfl (by kernel_rfl) (by kernel_rfl) (by kernel_rfl) rfl (by kernel_rfl) (by kernel_rfl) (fun _ _ _ h => h) (Y.load rfl sc2 rfl celN) ?_
  refine TA.as (vI S.delay) (by rfl) ?_
  refine TA.take 9 rfl rfl rfl rfl (by kernel_rfl) (by kernel_rfl) (by kernel_rfl) rfl (by kernel_rfl) (by kernel_rfl) (fun _ _ _ h => h) (Y.bin rfl rfl rfl (br_mulI (m := 2) (n := S.delay) (by omega) (by omega))) ?_
  refine TA.take 10 rfl rfl rfl rfl (by kernel_rfl) (by kernel_rfl) (by kernel_rfl) rfl (by kernel_rfl) (by kernel_rfl) (fun _ _ _ h => h) (Y.minI (n := 8000) rfl rfl rfl) ?_
  refine TA.as (vI (min (2 * S.delay) 8000)) (by rfl) ?_
  refine TA.take 11 rfl rfl rfl rfl (by kernel_rfl) (by kernel_rfl) (by kernel_rfl) rfl (by kernel_rfl) (by kernel_rfl) (fun _ _ _ h => h) (Y.move rfl rfl) ?_
  refine TA.take 12 rfl rfl rfl rfl (by kernel_rfl) (by kernel_rfl) (by kernel_rfl) rfl (by kernel_rfl) (by kernel_rfl) (fun _ _ _ h => h) (Y.nilCheck rfl rfl) ?_
  refine TA.take 13 rfl rfl rfl rfl (by kernel_rfl) (by kernel_rfl) (by kernel_rfl) rfl (by kernel_rfl) (by kernel_rfl) (fun _ _ _ h => h) (by first | exact Y.fieldAddrJ rfl fo66_3 rfl nqq | exact Y.fieldAddr rfl fo66_3 rfl nqq) ?_
  refine TA.take 14 rfl rfl rfl rfl (by kernel_rfl) (by kernel_rfl) (by kernel_rfl) rfl (by kernel_rfl) (by kernel_rfl) (fun _ _ _ h => h) (Y.load rfl sc3 rfl celN) ?_
  refine TA.as (vN S.fires) (by rfl) ?_
  refine TA.take 15 rfl rfl rfl rfl (by kernel_rfl) (by kernel_rfl) (by kernel_rfl) rfl (by kernel_rfl) (by kernel_rfl) (fun _ _ _ h => h) (Y.bin rfl rfl rfl (br_addN (n := 1) (by omega))) ?_
  refine TA.take 16 rfl rfl rfl rfl (by kernel_rfl) (by kernel_rfl) (by kernel_rfl) rfl (by kernel_rfl) (by kernel_rfl) (fun _ _ _ h => h) (Y.buildS (cells := #[vB true, vI (max S.clock now), vI (min (2 * S.delay) 8000), vN (S.fires + 1)]) rfl rfl pl66 zc66 (by kernel_rfl)) ?_
  refine TA.take 17 rfl rfl rfl rfl (by kernel_rfl) (by kernel_rfl) (by kernel_rfl) rfl (by kernel_rfl) (by kernel_rfl) (fun _ _ _ h => h) (Y.nilCheck rfl rfl) ?_
  refine TA.one0 18 (by kernel_rfl) rfl rfl rfl (X.storeAgg (cs' := asC p (S.clocked now).fired) rfl (by kernel_rfl) rfl rfl rfl (allOne (by rfl)) pul (by show 12 + 4 ≤ 17; decide) rfl) ?_
  rintro _ _ rfl
  refine ⟨(Or.inl (by kernel_rfl)), ?_⟩
  refine TA.done (by kernel_rfl) ?_
  refine TQ.next ?_
  refine TC.seq ?_
  refine TC.seq ?_
  refine TC.region ?_
  refine TL.val rfl rfl rfl (Y.move rfl rfl) ?_
  refine TL.val rfl rfl rfl (Y.nilCheck rfl rfl) ?_
  refine TL.val rfl rfl rfl (by first | exact Y.fieldAddrJ rfl fo68_3 rfl nqq | exact Y.fieldAddr rfl fo68_3 rfl nqq) ?_
  refine TL.val rfl rfl rfl (Y.load rfl sc3 rfl celN) ?_
  refine TL.as (vN S.state) (by rfl) ?_
  refine TL.val rfl rfl rfl (Y.bin rfl rfl rfl (br_neN (n := 3))) ?_
  refine TL.is false (by (simpa using h3)) ?_
  refine TL.nil ?_
  refine TQ.next ?_
  refine TC.cond_f rfl ?_
  refine TC.skip ?_
  refine TQ.next ?_
  refine TC.seq ?_
  refine TC.region ?_
  refine TL.val rfl rfl rfl (Y.assign rfl rfl) ?_
  refine TL.nil ?_
  refine TQ.next ?_
  refine TC.seq ?_
  refine TC.label ?_
  refine TQ.next ?_
  refine TC.seq ?_
  refine TC.seq ?_
  obtain ⟨S1, hS1⟩ : ∃ S1 : AS Msg, S1 = (S.clocked now).fired := ⟨_, rfl⟩
  have hq1 : S.queue = S1.queue := by rw [hS1]; rfl
  have hn1 : S1.sent = S.sent := by rw [hS1]; rfl
  have hsh1 : Short S1 := ⟨fun x hx => hsh.queue x (by rw [hq1]; exact hx)⟩
  have hda : ∀ i, (abs S1).dataAt i = (abs S).dataAt i := fun i => by rw [hS1]; rfl
  rw [← hS1, show aQ p S = aQ p S1 by simp only [aQ, hq1], show aD S = aD S1 by simp only [aD, hq1], ← hn1]
  refine TC.region ?_
  refine TL.val rfl rfl rfl (Y.move rfl rfl) ?_
  refine TL.val rfl rfl rfl (Y.nilCheck rfl rfl) ?_
  refine TL.val rfl rfl rfl (by first | exact Y.fieldAddrJ rfl fo68_10 rfl nqq | exact Y.fieldAddr rfl fo68_10 rfl nqq) ?_
  refine TL.val rfl rfl rfl (Y.load rfl sc3 rfl celN) ?_
  refine TL.as (vN S1.sent) (by rfl) ?_
  refine TL.val rfl rfl rfl (Y.move rfl rfl) ?_
  refine TL.nil ?_
  refine TQ.next ?_
  refine TC.block ?_
  refine TC.to (Ent.trans (Ent.nilOwn 23 1) Ent.rdss0) ?_
  refine TC.loopF (ι := Nat × Option Addr × Nat × List Bs) [] (fun i => i.1 ≤ S1.sent ∧ i.2.2.2.map (·.l) = (abs S).againOut i.1 ∧ i.2.2.2.length ≤ i.1) (fun i => [(92, some (vN i.1)), (6, some (.slice i.2.1 i.2.2.2.length i.2.2.1))]) (fun i => [SA.owns 23 1 (.slice i.2.1 i.2.2.2.length i.2.2.1) i.2.2.2.length (Dat.cs i.2.2.2), SA.rdss (i.2.2.2.flatMap Dat.g)]) (fun i => S1.sent - i.1) ((0, none, 0, [])) (⟨Nat.zero_le _, rfl, Nat.le_refl _⟩) ⟨rfl, rfl, trivial⟩ (Pulls.cons pul (Pulls.cons pul Pulls.nil)) ?_
  rintro ⟨k, ga, gc, out⟩ ⟨hk, ho, hol⟩ F' L' rfl hL'
  simp only [List.cons_append, List.nil_append] at hL'
  subst hL'
  simp only at hk ho hol ⊢
  refine TC.seq ?_
  refine TC.region ?_
  refine TL.val rfl rfl rfl (Y.bin rfl rfl rfl (br_ltN)) ?_
  refine TL.nil ?_
  refine TQ.next ?_
  refine TC.seq ?_
  refine TC.cond rfl (fun c4 => ?_) (fun c4 => ?_)
  · try simp only [decide_eq_true_eq, decide_eq_false_iff_not, Bool.not_eq_true', Bool.not_eq_false', Bool.and_eq_true, Bool.or_eq_true, Nat.not_lt, Nat.not_le, beq_iff_eq, bne_iff_ne] at c4
    refine TC.skip ?_
    refine TQ.next ?_
    refine TC.seq ?_
    refine TC.block ?_
    refine TC.seq ?_
    refine TC.region ?_
    refine TL.val rfl rfl rfl (Y.move rfl rfl) ?_
    refine TL.val rfl rfl rfl (Y.assign rfl rfl) ?_
    refine TL.nil ?_
    refine TQ.next ?_
    refine TC.seq ?_
    refine TC.seq ?_
    have hkq : k < S1.queue.length := by rw [← hq1]; omega
    obtain ⟨⟨⟨st, kd, bs⟩, co⟩, hx, hxm⟩ := getS (l := S1.queue) (i := k) hkq
    refine TC.know (owns_some (a := p.qa) (n := S1.queue.length) inn (by omega)) ?_
    rintro ⟨g, off, hqa⟩
    have hc : comeAt (abs S).queue k = co := by
      show (((S.queue.map fun x => (pm x.1, x.2))[k]?).map (·.2)).getD false = co
      rw [List.getElem?_map, hq1, hx]; rfl
    have hnx := againOut_s (abs S) k
    rw [hc] at hnx
    refine TC.region ?_
    refine TL.val rfl rfl rfl (Y.move rfl rfl) ?_
    refine TL.val rfl rfl rfl (Y.nilCheck rfl rfl) ?_
    refine TL.val rfl rfl rfl (by first | exact Y.fieldAddrJ rfl fo68_9 rfl nqq | exact Y.fieldAddr rfl fo68_9 rfl nqq) ?_
    refine TL.val rfl rfl rfl (Y.load rfl sc64 rfl celD) ?_
    refine TL.as (.slice (some ⟨g, off, none⟩) S1.queue.length p.qc) (by (rw [← hqa]; rfl)) ?_
    refine TL.val rfl rfl rfl (Y.move rfl rfl) ?_
    refine TL.val rfl rfl rfl (by first | exact Y.indexSlB rfl sl64 rfl rfl (by omega) nqq | exact Y.indexSl rfl sl64 rfl rfl (by omega) nqq) ?_
    refine TL.val rfl rfl rfl (by first | exact Y.fieldAddrJ rfl fo82_1 rfl nqq | exact Y.fieldAddr rfl fo82_1 rfl nqq) ?_
    refine TL.val rfl rfl rfl (Y.load rfl sc4 rfl (Cel.at (A := SA.owns 82 4 (.slice (some ⟨g, off, none⟩) S1.queue.length p.qc) S1.queue.length (Dat.cs S1.queue)) (k := 3) Reads.owns (by rw [← hqa]; exact inn) hx rfl)) ?_
    refine TL.as (.bool co) (by rfl) ?_
    refine TL.nil ?_
    refine TQ.next ?_
    refine TC.cond rfl (fun c5 => ?_) (fun c5 => ?_)
    · try simp only [decide_eq_true_eq, decide_eq_false_iff_not, Bool.not_eq_true', Bool.not_eq_false', Bool.and_eq_true, Bool.or_eq_true, Nat.not_lt, Nat.not_le, beq_iff_eq, bne_iff_ne] at c5
      refine TC.exit ?_
      refine TQ.then_exit ?_
      refine TQ.block_exit ?_
      refine TQ.next ?_
      refine TC.region ?_
      refine TL.val rfl rfl rfl (Y.bin rfl rfl rfl (br_addN (n := 1) (by omega))) ?_
      refine TL.val rfl rfl rfl (Y.move rfl rfl) ?_
      refine TL.nil ?_
      refine TQ.loopF ((by first | (have := da; exact (k + 1, a108, c108, out ++ [⟨da, dc, D⟩])) | exact (k + 1, ga, gc, out))) ((by first | exact ⟨by show k + 1 ≤ _; omega, by show (out ++ [(⟨da, dc, D⟩ : Bs)]).map (·.l) = _; rw [hnx, List.map_append, ho]; simp_all, by show (out ++ [(⟨da, dc, D⟩ : Bs)]).length ≤ k + 1; rw [List.length_append]; show out.length + 1 ≤ _; omega⟩ | exact ⟨by show k + 1 ≤ _; omega, by rw [hnx, ho]; simp_all, by show out.length ≤ k + 1; omega⟩)) (by show S1.sent - (k + 1) < S1.sent - k; omega) ⟨rfl, rfl, trivial⟩ (by (repeat first | apply Grow.refl | apply Grow.step | apply Grow.app)) ?_ ?_ ?_
      · kernel_rfl
      · rfl
      · simp only [List.cons_append, List.nil_append]
        exact ett
    · try simp only [decide_eq_true_eq, decide_eq_false_iff_not, Bool.not_eq_true', Bool.not_eq_false', Bool.and_eq_true, Bool.or_eq_true, Nat.not_lt, Nat.not_le, beq_iff_eq, bne_iff_ne] at c5
      refine TC.skip ?_
      refine TQ.next ?_
      refine TC.region ?_
      refine TL.val rfl rfl rfl (Y.move rfl rfl) ?_
      refine TL.val rfl rfl rfl (Y.move rfl rfl) ?_
      refine TL.val rfl rfl rfl (Y.move rfl rfl) ?_
      refine TL.eff rfl rfl rfl (X.call rfl Try.func43 (by kernel_rfl) rfl rfl (Fn.preE (by repeat first | (with_reducible apply Ent.refl) | (apply Ent.cons; case h => first | (with_reducible (repeat first | apply Pull.here | apply Pull.there); done) | (repeat first | apply Pull.here | apply Pull.there))) (data_fn b p S1 k st kd bs co hx (Nat.le_trans (hsh1.queue _ hxm) (by decide)) _))) ?_
      rintro _ _ ⟨da, dc, rfl, rfl⟩
      have hD0 := dataAt_of hx
      rw [hda] at hD0
      generalize dataB S1.other (S1.base + UInt32.ofNat k) (st, kd, bs.l) = D at hD0 ⊢
      refine TL.eff rfl rfl rfl (X.lit rfl el24 rfl rfl rfl (by decide) rfl) ?_
      rintro _ _ ⟨g107, rfl, rfl⟩
      refine TL.eff rfl rfl rfl (X.appendS rfl el24 rfl pul rfl (by first | exact Src.owns Try.underlying24 inn | exact Src.rds Try.underlying24 inn | exact Src.reads (by assumption) Try.underlying24 inn) (by simp only [maxLen]; omega) (by omega)) ?_
      rintro _ _ ⟨a108, c108, rfl, rfl⟩
      refine TL.val rfl rfl rfl (Y.assign rfl rfl) ?_
      refine TL.nil ?_
      refine TQ.to ((Pull.ent (A := SA.owns 5 1 (.slice da D.length dc) D.length (D.map v8)) pul).trans (Ent.freeze.trans (Ent.mkBytes rfl))) ?_
      refine TQ.to (Ent.addEl (x := (⟨da, dc, D⟩ : Bs)) (ys := out) pul pul) ?_
      rw [cs_snoc out da dc D, show out.length + 1 = (out ++ [(⟨da, dc, D⟩ : Bs)]).length by simp]
      refine TQ.block_normal ?_
      refine TQ.next ?_
      refine TC.region ?_
      refine TL.val rfl rfl rfl (Y.bin rfl rfl rfl (br_addN (n := 1) (by omega))) ?_
      refine TL.val rfl rfl rfl (Y.move rfl rfl) ?_
      refine TL.nil ?_
      refine TQ.loopF ((by first | (have := da; exact (k + 1, a108, c108, out ++ [⟨da, dc, D⟩])) | exact (k + 1, ga, gc, out))) ((by first | exact ⟨by show k + 1 ≤ _; omega, by show (out ++ [(⟨da, dc, D⟩ : Bs)]).map (·.l) = _; rw [hnx, List.map_append, ho]; simp_all, by show (out ++ [(⟨da, dc, D⟩ : Bs)]).length ≤ k + 1; rw [List.length_append]; show out.length + 1 ≤ _; omega⟩ | exact ⟨by show k + 1 ≤ _; omega, by rw [hnx, ho]; simp_all, by show out.length ≤ k + 1; omega⟩)) (by show S1.sent - (k + 1) < S1.sent - k; omega) ⟨rfl, rfl, trivial⟩ (by (repeat first | apply Grow.refl | apply Grow.step | apply Grow.app)) ?_ ?_ ?_
      · kernel_rfl
      · rfl
      · simp only [List.cons_append, List.nil_append]
        exact ett
  · try simp only [decide_eq_true_eq, decide_eq_false_iff_not, Bool.not_eq_true', Bool.not_eq_false', Bool.and_eq_true, Bool.or_eq_true, Nat.not_lt, Nat.not_le, beq_iff_eq, bne_iff_ne] at c4
    obtain rfl : k = S1.sent := by omega
    refine TC.exit ?_
    refine TQ.then_exit ?_
    refine TQ.then_exit ?_
    refine TQ.block_exit ?_
    refine TQ.next ?_
    refine TC.seq ?_
    refine TC.region ?_
    refine TL.val rfl rfl rfl (Y.move rfl rfl) ?_
    refine TL.val rfl rfl rfl (Y.assign rfl rfl) ?_
    refine TL.nil ?_
    refine TQ.next ?_
    refine TC.ret ?_
    refine TQ.scope_ret ?_
    refine TQ.retE (res1 rfl rfl) (⟨⟨ga, gc, out⟩, rfl, ho, rfl⟩) ?_
    exact (Ent.trans (Ent.mkOwn (a := ga) (l := out) pul pul rfl rfl rfl) ett)
end
end ac
end Go.Proofs.Ytomplpdeeomehaa

/- assoc: Send and Tick of a whole side. -/
namespace Go.Proofs.Ytomplpdeeomehaa
set_option linter.unusedVariables false
set_option linter.unusedSimpArgs false
open Go.RowKit
namespace ac
open wr (be16 be32)
open rd (num)
--FACTS
/-- a message is sent -/
def AS.sendP (S : PS) (m : PM) (now : Int) : PS × List (List UInt8) × Nat :=
  if S.state ≠ 3 then (S, [], 9) else if 1024 < m.2.2.length then (S, [], 3) else if S.queue.length = 32 then (S, [], 6)
  else ((S.taken m now).more, (S.taken m now).moreOut, 0)
open Classical in
/-- the timer fires, if it is due -/
noncomputable def AS.tickP (S : PS) (now : Int) : PS × List (List UInt8) :=
  if ¬ (S.clocked now).due then (S.clocked now, [])
  else if S.fires = 8 then ((S.clocked now).over, [])
  else if S.state ≠ 3 then ((S.clocked now).fired, [S.shake])
  else ((S.clocked now).fired, S.againOut S.sent)
theorem taken_same {μ : Type} (S : AS μ) (m : μ) (now : Int) : (S.taken m now).secret = S.secret ∧ (S.taken m now).kept = S.kept ∧ (S.taken m now).shake = S.shake := ⟨rfl, rfl, rfl⟩
section
variable (b : Nat) (S : PS) (hI : InvP S)
include hI
theorem Send_fn (st : UInt16) (kd : UInt32) (ma : Option Addr) (mn mc : Nat) (ml : List UInt8) (hn : ml.length = mn) (hl : mn ≤ 140737488351232) (now : Int) (L : List SA) :
    Fn Try.prog 19 [pt b 0, .agg (msC st kd (.slice ma mn mc)), vI now] (SD b S :: SA.rds 1 (.slice ma mn mc) mn (ml.map v8) :: L)
      (fun v L' => ∃ o : Sl Bs, v = .tuple #[o.v, vN (S.sendP (st, kd, ml) now).2.2] ∧ o.l.map (·.l) = (S.sendP (st, kd, ml) now).2.1 ∧ L' = SA.dat o :: SD b (S.sendP (st, kd, ml) now).1 :: SA.rds 1 (.slice ma mn mc) mn (ml.map v8) :: L) := by
  refine Fn.SD fun p T hT => ?_
  subst hT
  have pre1 : Ent (aB b p T :: aS p T :: aM p T :: aQ p T :: aD T :: aH p T :: SA.rds 1 (.slice ma mn mc) mn (ml.map v8) :: L) (aB b p T :: SA.rds 1 (.slice ma mn mc) mn (ml.map v8) :: aS p T :: aM p T :: aQ p T :: aD T :: aH p T :: L) := by exact ett
  have bk : Ent (aB b p T :: SA.rds 1 (.slice ma mn mc) mn (ml.map v8) :: aS p T :: aM p T :: aQ p T :: aD T :: aH p T :: L) (aB b p T :: aS p T :: aM p T :: aQ p T :: aD T :: aH p T :: SA.rds 1 (.slice ma mn mc) mn (ml.map v8) :: L) := by exact ett
  have pre6 : Ent (aB b p T :: aS p T :: aM p T :: aQ p T :: aD T :: aH p T :: SA.rds 1 (.slice ma mn mc) mn (ml.map v8) :: L) (aB b p T :: aQ p T :: aD T :: SA.rds 1 (.slice ma mn mc) mn (ml.map v8) :: aS p T :: aM p T :: aH p T :: L) := by exact ett
  have no : ∀ e : Nat, (abs T).sendP (st, kd, ml) now = (abs T, [], e) → ∀ (v : Value) (L' : List SA), (v = .tuple #[.slice none 0 0, vN e] ∧ L' = aB b p T :: SA.rds 1 (.slice ma mn mc) mn (ml.map v8) :: aS p T :: aM p T :: aQ p T :: aD T :: aH p T :: L) → ∃ L'', Ent L' L'' ∧ ∃ o : Sl Bs, v = .tuple #[o.v, vN ((abs T).sendP (st, kd, ml) now).2.2] ∧ o.l.map (·.l) = ((abs T).sendP (st, kd, ml) now).2.1 ∧ L'' = SA.dat o :: SD b ((abs T).sendP (st, kd, ml) now).1 :: SA.rds 1 (.slice ma mn mc) mn (ml.map v8) :: L := by
    rintro e he v L' ⟨rfl, rfl⟩
    rw [he]
    exact ⟨_, bk.trans ((Ent.SD rfl).trans (Ent.nilD (α := Bs))), ⟨none, 0, []⟩, rfl, rfl, rfl⟩
  by_cases hs : T.state = 3
  · by_cases hm : 1024 < mn
    · exact Fn.preE pre1 ((Send_large b p T st kd ma mn mc ml now hs hm _).mono (no 3 (by unfold AS.sendP; rw [if_neg (fun h => h hs), if_pos (show 1024 < ml.length by omega)])))
    · by_cases hq : T.queue.length = 32
      · exact Fn.preE pre1 ((Send_full b p T st kd ma mn mc ml now hs (by omega) hq _).mono (no 6 (by unfold AS.sendP; rw [if_neg (fun h => h hs), if_neg (show ¬ 1024 < ml.length by omega), if_pos (InvP.lenT.trans hq)])))
      · have hq32 : T.queue.length ≤ 32 := by have := hI.q32; rwa [InvP.lenT] at this
        have hsq : T.sent ≤ T.queue.length := by have := hI.sent; rwa [InvP.lenT] at this
        refine Fn.preE pre6 ((Send_yes b p T st kd ma mn mc ml hn hl now hs (by omega) (by omega) hI.shortT hsq hI.s16 _).mono ?_)
        rintro v L' ⟨o, p', bs, e1, e2, e3, e4, e5, rfl, hbs, ho, rfl⟩
        have he : (abs T).sendP (st, kd, ml) now = (abs (T.taken (st, kd, bs) now).more, (abs (T.taken (st, kd, bs) now)).moreOut, 0) := by
          unfold AS.sendP
          rw [if_neg (fun h => h hs), if_neg (show ¬ 1024 < ml.length by omega), if_neg (fun h => hq (InvP.lenT.symm.trans h)), abs_more, abs_taken, show pm (st, kd, bs) = (st, kd, ml) by unfold pm; rw [hbs]]
        rw [he]
        exact ⟨_, Ent.under _ ((Ent.more e1 e2 e3 e4 e5 (taken_same T _ _)).trans (Ent.SD rfl)), o, rfl, ho, rfl⟩
  · exact Fn.preE pre1 ((Send_state b p T st kd ma mn mc ml now hs _).mono (no 9 (by unfold AS.sendP; rw [if_pos (show (abs T).state ≠ 3 from hs)])))
theorem Tick_fn (now : Int) (L : List SA) : Fn Try.prog 20 [pt b 0, vI now] (SD b S :: L)
    (fun v L' => ∃ o : Sl Bs, v = o.v ∧ o.l.map (·.l) = (S.tickP now).2 ∧ L' = SA.dat o :: SD b (S.tickP now).1 :: L) := by
  refine Fn.SD fun p T hT => ?_
  subst hT
  by_cases hd : (T.clocked now).due
  · by_cases hf : T.fires = 8
    · refine (Tick_over b p T now hI.delay hd hf _).mono ?_
      rintro v L' ⟨rfl, rfl⟩
      rw [show (abs T).tickP now = (abs (T.clocked now).over, []) by unfold AS.tickP; rw [if_neg (fun h => h hd), if_pos (show (abs T).fires = 8 from hf)]; rfl]
      exact ⟨_, (show Ent _ (SD b (abs (T.clocked now).over) :: L) from Ent.SD (p := p) (T := (T.clocked now).over) rfl).trans (Ent.nilD (α := Bs)), ⟨none, 0, []⟩, rfl, rfl, rfl⟩
    · by_cases hs : T.state = 3
      · have hsq : T.sent ≤ T.queue.length := by have := hI.sent; rwa [InvP.lenT] at this
        refine Fn.preE (L' := aB b p T :: aQ p T :: aD T :: aS p T :: aM p T :: aH p T :: L) (by exact ett) ((Tick_again b p T now hI.delay hd hf hI.fires hs hI.shortT hsq hI.s16 _).mono ?_)
        rintro v L' ⟨o, rfl, ho, rfl⟩
        rw [show (abs T).tickP now = (abs (T.clocked now).fired, (abs T).againOut T.sent) by unfold AS.tickP; rw [if_neg (fun h => h hd), if_neg (show ¬ (abs T).fires = 8 from hf), if_neg (fun h => h hs)]; rfl]
        refine ⟨_, Ent.under _ ((show Ent _ (aB b p (T.clocked now).fired :: aS p T :: aM p T :: aQ p T :: aD T :: aH p T :: L) by generalize aB b p (T.clocked now).fired = A; exact ett).trans (Ent.SD (p := p) (T := (T.clocked now).fired) rfl)), o, rfl, ho, rfl⟩
      · refine Fn.preE (L' := aB b p T :: aH p T :: aS p T :: aM p T :: aQ p T :: aD T :: L) (by exact ett) ((Tick_shake b p T now hI.delay hd hf hI.fires hs hI.shake _).mono ?_)
        rintro v L' ⟨o, rfl, ho, rfl⟩
        rw [show (abs T).tickP now = (abs (T.clocked now).fired, [T.shake]) by unfold AS.tickP; rw [if_neg (fun h => h hd), if_neg (show ¬ (abs T).fires = 8 from hf), if_pos (show (abs T).state ≠ 3 from hs)]; rfl]
        refine ⟨_, Ent.under _ ((show Ent _ (aB b p (T.clocked now).fired :: aS p T :: aM p T :: aQ p T :: aD T :: aH p T :: L) by generalize aB b p (T.clocked now).fired = A; exact ett).trans (Ent.SD (p := p) (T := (T.clocked now).fired) rfl)), o, rfl, ho, rfl⟩
  · refine (Tick_quiet b p T now hI.delay hd _).mono ?_
    rintro v L' ⟨rfl, rfl⟩
    rw [show (abs T).tickP now = (abs (T.clocked now), []) by unfold AS.tickP; rw [if_pos (show ¬ ((abs T).clocked now).due from hd)]; rfl]
    exact ⟨_, (show Ent _ (SD b (abs (T.clocked now)) :: L) from Ent.SD (p := p) (T := T.clocked now) rfl).trans (Ent.nilD (α := Bs)), ⟨none, 0, []⟩, rfl, rfl, rfl⟩
end
end ac
end Go.Proofs.Ytomplpdeeomehaa

/- assoc: what holds of a side is kept. -/
namespace Go.Proofs.Ytomplpdeeomehaa
set_option linter.unusedVariables false
set_option linter.unusedSimpArgs false
open Go.RowKit
namespace ac
open wr (be16 be32)
open rd (num)
/-- and nothing is kept before it is open -/
structure InvA (S : PS) : Prop extends InvP S where
  none : S.state < 3 → ∀ k, S.kept k = none
theorem win_le {μ : Type} {S : AS μ} {v w : Nat} (h : S.Win v) (hv : v ≤ w) : S.Win w := fun k hk => Nat.lt_of_lt_of_le (h k hk) hv
theorem win_none {μ : Type} {S : AS μ} (h : ∀ k, S.kept k = none) (w : Nat) : S.Win w := fun k hk => by rw [h k] at hk; cases hk
theorem inv_clocked {S : PS} (h : InvA S) (now : Int) : InvA (S.clocked now) := ⟨⟨h.sent, h.s16, h.q32, h.near, h.secret, h.shake, h.fires, h.delay, h.short⟩, h.none⟩
theorem inv_starts {S : PS} (h : InvA S) : InvA S.starts := ⟨⟨h.sent, h.s16, h.q32, h.near, h.secret, h.shake, Nat.zero_le _, (by show (0 : Int) ≤ 1000 ∧ (1000 : Int) ≤ 8000; decide), h.short⟩, h.none⟩
theorem inv_tset {S : PS} (h : InvA S) (t : Bool) : InvA { S with tset := t } := ⟨⟨h.sent, h.s16, h.q32, h.near, h.secret, h.shake, h.fires, h.delay, h.short⟩, h.none⟩
theorem inv_state {S : PS} (h : InvA S) (k : Nat) (t : Bool) (hk : 3 ≤ k) : InvA { S with state := k, tset := t } := ⟨⟨h.sent, h.s16, h.q32, h.near, h.secret, h.shake, h.fires, h.delay, h.short⟩, fun hs => absurd hs (by show ¬ k < 3; omega)⟩
theorem inv_opened {S : PS} (h : InvA S) (hs : S.state < 3) (x y : UInt32) : InvA (S.opened x y) := ⟨⟨h.sent, h.s16, h.q32, win_none (S := S.opened x y) (h.none hs) 32, h.secret, h.shake, h.fires, h.delay, h.short⟩, fun hs => absurd hs (by show ¬ 3 < 3; omega)⟩
theorem inv_echo {S : PS} (h : InvA S) (hs : S.state < 3) (x y : UInt32) {c : List UInt8} (hc : c.length ≤ 900) : InvA (S.echo x y c) :=
  inv_starts ⟨⟨h.sent, h.s16, h.q32, win_none (S := ({ S with known := true, other := x, top := y - 1, state := 2, shake := echoB x c } : PS)) (h.none hs) 32, h.secret, by show (echoB x c).length ≤ 1000; rw [echoB, List.length_append, pkt_len]; omega, h.fires, h.delay, h.short⟩, fun _ => h.none hs⟩
theorem keep_winG {μ : Type} {S : AS μ} {t : UInt32} {m : μ} (h : S.Win 32) : (S.keep t m).Win 32 := by
  unfold AS.keep
  split
  · rename_i hc
    intro k hk
    simp only [mput] at hk
    by_cases e : k = t
    · subst e; exact UInt32.lt_iff_toNat_lt.1 hc.2
    · rw [if_neg e] at hk; exact h k hk
  · exact h
theorem win_nextG {μ : Type} {S : AS μ} {w : Nat} (h : S.Win (w + 1)) : S.step1.Win w := fun k hk => by
  have hk2 : ¬ k = S.top + 1 ∧ (S.kept k).isSome = true := by
    simp only [AS.step1, mdel] at hk
    split at hk
    · cases hk
    · rename_i hne; exact ⟨hne, hk⟩
  have h1 := h k hk2.2
  have hne : k - S.top - 1 ≠ 0 := fun e => hk2.1 (by
    have : k = (k - S.top - 1) + (S.top + 1) := by grind
    rw [e, UInt32.zero_add] at this; exact this)
  show (k - (S.top + 1) - 1).toNat < w
  have e : k - (S.top + 1) - 1 = (k - S.top - 1) - 1 := by grind
  rw [e]
  generalize k - S.top - 1 = x at h1 hne ⊢
  have hx : x.toNat ≠ 0 := fun e => hne (UInt32.toNat_inj.1 (by simpa using e))
  have : (x - 1).toNat = x.toNat - 1 := by rw [UInt32.toNat_sub_of_le x 1 (by rw [UInt32.le_iff_toNat_le]; show 1 ≤ _; omega)]; rfl
  omega
theorem deliver_win {μ : Type} (f : Nat) : ∀ S : AS μ, S.Win 32 → (S.deliver f).2.Win 32 := by
  induction f with
  | zero => intro S h; exact h
  | succ f ih =>
    intro S h
    rw [AS.deliver]
    cases S.kept (S.top + 1) with
    | none => exact h
    | some m => exact ih _ (win_le (win_nextG (w := 31) h) (by decide))
/-- the parts that receiving leaves -/
structure SameR {μ : Type} (S T : AS μ) : Prop where
  state : S.state = T.state
  queue : S.queue = T.queue
  sent : S.sent = T.sent
  secret : S.secret = T.secret
  shake : S.shake = T.shake
  fires : S.fires = T.fires
  delay : S.delay = T.delay
  tag : S.tag = T.tag
  other : S.other = T.other
  base : S.base = T.base
  known : S.known = T.known
  first : S.first = T.first
theorem SameR.trans {μ : Type} {S T U : AS μ} (h : SameR S T) (k : SameR T U) : SameR S U := ⟨h.1.trans k.1, h.2.trans k.2, h.3.trans k.3, h.4.trans k.4, h.5.trans k.5, h.6.trans k.6, h.7.trans k.7, h.8.trans k.8, h.9.trans k.9, h.10.trans k.10, h.11.trans k.11, h.12.trans k.12⟩
theorem SameR.rfl' {μ : Type} {S : AS μ} : SameR S S := ⟨rfl, rfl, rfl, rfl, rfl, rfl, rfl, rfl, rfl, rfl, rfl, rfl⟩
theorem keep_sr {μ : Type} (S : AS μ) (t : UInt32) (m : μ) : SameR (S.keep t m) S := by unfold AS.keep; split <;> exact ⟨rfl, rfl, rfl, rfl, rfl, rfl, rfl, rfl, rfl, rfl, rfl, rfl⟩
theorem deliver_sr {μ : Type} (f : Nat) : ∀ S : AS μ, SameR (S.deliver f).2 S := by
  induction f with
  | zero => intro S; exact SameR.rfl'
  | succ f ih =>
    intro S
    rw [AS.deliver]
    cases S.kept (S.top + 1) with
    | none => exact SameR.rfl'
    | some m => exact (ih S.step1).trans ⟨rfl, rfl, rfl, rfl, rfl, rfl, rfl, rfl, rfl, rfl, rfl, rfl⟩
theorem recv_sr {μ : Type} (S : AS μ) (t : UInt32) (m : μ) : SameR (S.recv t m).2 S := (deliver_sr 33 _).trans (keep_sr S t m)
theorem inv_recv {S : PS} (h : InvA S) (hs : S.state = 3) (t : UInt32) (m : PM) : InvA (S.recv t m).2 := by
  have r := recv_sr S t m
  exact ⟨⟨by rw [r.sent, r.queue]; exact h.sent, by rw [r.sent]; exact h.s16, by rw [r.queue]; exact h.q32, deliver_win 33 _ (keep_winG h.near), by rw [r.secret]; exact h.secret, by rw [r.shake]; exact h.shake, by rw [r.fires]; exact h.fires, by rw [r.delay]; exact h.delay, by rw [r.queue]; exact h.short⟩, fun hx => absurd hx (by rw [r.state]; omega)⟩
theorem inv_cutQ {S : PS} (h : InvA S) (n : UInt32) : InvA (S.cutQ n) := by
  have h1 := h.sent; have h2 := h.s16; have h3 := h.q32
  exact ⟨⟨by show S.sent - n.toNat ≤ (S.queue.drop n.toNat).length; rw [List.length_drop]; omega, by show S.sent - n.toNat ≤ 16; omega, by show (S.queue.drop n.toNat).length ≤ 32; rw [List.length_drop]; omega, h.near, h.secret, h.shake, h.fires, h.delay, fun x hx => h.short x (List.mem_of_mem_drop hx)⟩, h.none⟩
theorem inv_mark {S : PS} (h : InvA S) (t : UInt32) : InvA (S.mark t) := by
  unfold AS.mark
  split
  · have hl : (S.queue.modify (t - S.base).toNat fun x => (x.1, true)).length = S.queue.length := List.length_modify _ _ _
    have hm : (S.queue.modify (t - S.base).toNat fun x => (x.1, true)).map (·.1) = S.queue.map (·.1) := by
      have := markQ_map S.base S.sent S.queue t
      unfold markQ at this
      rwa [if_pos (by assumption)] at this
    exact ⟨⟨by show S.sent ≤ (S.queue.modify (t - S.base).toNat fun x => (x.1, true)).length; rw [hl]; exact h.sent, h.s16, by show (S.queue.modify (t - S.base).toNat fun x => (x.1, true)).length ≤ 32; rw [hl]; exact h.q32, h.near, h.secret, h.shake, h.fires, h.delay, fun x hx => by
      have hx2 : x.1 ∈ S.queue.map (·.1) := by rw [← hm]; exact List.mem_map_of_mem (f := fun x : PM × Bool => x.1) hx
      obtain ⟨y, hy, hyx⟩ := List.mem_map.1 hx2
      rw [← hyx]; exact h.short y hy⟩, h.none⟩
  · exact h
theorem inv_marks (l : List UInt32) : ∀ {S : PS}, InvA S → InvA (l.foldl AS.mark S) := by
  induction l with
  | nil => intro S h; exact h
  | cons t l ih => intro S h; exact ih (inv_mark h t)
theorem inv_ack1 {S : PS} (h : InvA S) (c : UInt32) (l : List UInt32) : InvA (S.ack1 c l) := by
  have h1 : InvA (S.drop1 c) := by
    unfold AS.drop1; split
    · exact inv_cutQ h _
    · exact h
  unfold AS.ack1
  split
  · exact inv_tset (inv_starts (inv_marks l h1)) _
  · exact inv_marks l h1
theorem inv_more {S : PS} (h : InvA S) : InvA S.more := by
  have h1 := h.sent; have h2 := h.s16
  have hb : InvA { S with sent := max S.sent (min S.queue.length 16) } := ⟨⟨by show max S.sent (min S.queue.length 16) ≤ S.queue.length; omega, by show max S.sent (min S.queue.length 16) ≤ 16; omega, h.q32, h.near, h.secret, h.shake, h.fires, h.delay, h.short⟩, h.none⟩
  unfold AS.more
  split
  · exact inv_starts hb
  · exact hb
theorem inv_handle2 {S : PS} (h : InvA S) {l : List UInt8} {kd : UInt32} (hF : Formed l kd) : InvA (S.handle2 l kd).1 := by
  unfold AS.handle2
  split
  · exact h
  split
  · split <;> exact h
  split
  · exact h
  split
  · rename_i h2
    split
    · exact h
    · rename_i hs
      exact inv_echo h (by have := Classical.not_not.1 hs; omega) _ _ (by have := hF.fits; subst h2; simp [fitsB] at this; rw [List.length_drop]; omega)
  split
  · split
    · exact h
    split
    · rename_i hs; exact inv_opened h (by omega) _ _
    split <;> exact h
  split
  · split
    · exact inv_state h 3 false (by decide)
    split <;> exact h
  split
  · exact inv_state h 4 false (by decide)
  split
  · exact h
  rename_i hs
  split
  · exact inv_recv h (Classical.not_not.1 hs) _ _
  · exact inv_more (inv_ack1 h _ _)
theorem inv_handle {S : PS} (h : InvA S) (now : Int) (l : List UInt8) : InvA (S.handle now l).1 := by
  by_cases h8 : 8 ≤ l.length
  · rcases formed_or l h8 with hb | hF
    · rw [handle_bad (.inr hb)]; exact inv_clocked h now
    · rw [handle_ok hF]; exact inv_handle2 (inv_clocked h now) hF
  · rw [handle_bad (.inl (by omega))]; exact inv_clocked h now
theorem inv_send {S : PS} (h : InvA S) (m : PM) (now : Int) : InvA (S.sendP m now).1 := by
  unfold AS.sendP
  split
  · exact h
  split
  · exact h
  rename_i hm
  split
  · exact h
  rename_i hq
  have h1 := h.sent; have h3 := h.q32
  refine inv_more ⟨⟨by show S.sent ≤ (S.queue ++ [(m, false)]).length; rw [List.length_append]; omega, h.s16, by show (S.queue ++ [(m, false)]).length ≤ 32; rw [List.length_append]; show S.queue.length + 1 ≤ 32; omega, h.near, h.secret, h.shake, h.fires, h.delay, fun x hx => ?_⟩, h.none⟩
  rcases List.mem_append.1 hx with hx | hx
  · exact h.short x hx
  · rw [List.mem_singleton.1 hx]; show m.2.2.length ≤ 1024; omega
theorem inv_tick {S : PS} (h : InvA S) (now : Int) : InvA (S.tickP now).1 := by
  have hf : S.fires ≠ 8 → InvA (S.clocked now).fired := fun h8 => by
    have h1 := h.fires; have h2 := h.delay
    exact ⟨⟨h.sent, h.s16, h.q32, h.near, h.secret, h.shake, by show S.fires + 1 ≤ 8; omega, by show 0 ≤ min (2 * S.delay) 8000 ∧ min (2 * S.delay) 8000 ≤ 8000; omega, h.short⟩, h.none⟩
  unfold AS.tickP
  split
  · exact inv_clocked h now
  split
  · exact inv_state (inv_clocked h now) 4 false (by decide)
  rename_i h8
  split <;> exact hf h8
end ac
end Go.Proofs.Ytomplpdeeomehaa

/- assoc: ours, theirs, walked. -/
namespace Go.Proofs.Ytomplpdeeomehaa
set_option linter.unusedVariables false
set_option linter.unusedSimpArgs false
open Go.RowKit
namespace ac
open wr (be16 be32)
open rd (num)
namespace FxAsO
set_option maxRecDepth 100000
theorem el44 : Elt Try.prog 44 77 3 32 (.agg #[.int .u16 0, .int .u32 0, .slice none 0 0]) := ⟨Try.underlying44, by kernel_rfl, rfl, by decide, by simp [Value.cells, Value.oneCell']⟩
theorem fo51_0 : Program.fieldOff Try.prog 51 0 = some 0 := by kernel_rfl
theorem fo51_1 : Program.fieldOff Try.prog 51 1 = some 1 := by kernel_rfl
theorem fo51_2 : Program.fieldOff Try.prog 51 2 = some 2 := by kernel_rfl
theorem pl77 : Program.places Try.prog 77 = some [(0, 1), (1, 1), (2, 1)] := by kernel_rfl
theorem sc22 : Program.isSc Try.prog 22 = true := by kernel_rfl
theorem sc23 : Program.isSc Try.prog 23 = true := by kernel_rfl
theorem sc40 : Program.isSc Try.prog 40 = true := by kernel_rfl
theorem sl28 : Program.slI Try.prog 28 = some 3 := by kernel_rfl
theorem zc77 : Program.zeroC Try.prog 77 = some #[.int .u16 0, .int .u32 0, .slice none 0 0] := by kernel_rfl
end FxAsO
open FxAsO
abbrev rmT := 77
set_option maxHeartbeats 1000000 in
--REG rostrum/rostrumlaw20.ours : _ _ ⟨oa{d}, oc{d}, rfl, rfl⟩ => (ac.ours_fn _ _ _ (by omega) _)
theorem ours_fn (a : Option Addr) (cap : Nat) (l : List Msg) (hl : l.length ≤ 1000000) (L : List SA) : Fn Try.prog 40 [.slice a l.length cap] (SA.dat (⟨a, cap, l⟩ : Sl Msg) :: L)
    (fun v L' => ∃ oa oc, v = .slice oa l.length oc ∧ L' = SA.dat (⟨oa, oc, l⟩ : Sl Msg) :: SA.dat (⟨a, cap, l⟩ : Sl Msg) :: L) := by
  refine Fn.of (N := 31) Try.func40 rfl rfl ?_
  intro Xh
  refine TC.seq ?_
  refine TC.region ?_
  refine TL.val rfl rfl rfl (Y.assign rfl rfl) ?_
  refine TL.nil ?_
  refine TQ.next ?_
  refine TC.seq ?_
  refine TC.region ?_
  refine TL.val rfl rfl rfl (Y.assign rfl rfl) ?_
  refine TL.nil ?_
  refine TQ.next ?_
  refine TC.seq ?_
  refine TC.seq ?_
  refine TC.region ?_
  refine TL.val rfl rfl rfl (Y.move rfl rfl) ?_
  refine TL.val rfl rfl rfl (Y.len rfl Try.underlying28 rfl) ?_
  refine TL.val rfl rfl rfl (Y.move rfl rfl) ?_
  refine TL.nil ?_
  refine TQ.next ?_
  refine TC.block ?_
  refine TC.to (Ent.trans (Ent.nilOwn rmT 3) Ent.rdss0) ?_
  refine TC.loopF (ι := Nat × Option Addr × Nat) [] (fun i => i.1 ≤ l.length) (fun i => [(7, some (vN i.1)), (3, some (.slice i.2.1 i.1 i.2.2))]) (fun i => [SA.owns rmT 3 (.slice i.2.1 i.1 i.2.2) i.1 (Dat.cs (l.take i.1)), SA.rdss ((l.take i.1).flatMap Dat.g)]) (fun i => l.length - i.1) ((0, none, 0)) (by omega) ⟨rfl, rfl, trivial⟩ (Pulls.cons pul (Pulls.cons pul Pulls.nil)) ?_
  rintro ⟨k, ga, gc⟩ hk F' L' rfl hL'
  simp only [List.cons_append, List.nil_append] at hL'
  subst hL'
  simp only at hk ⊢
  refine TC.seq ?_
  refine TC.region ?_
  refine TL.val rfl rfl rfl (Y.bin rfl rfl rfl (br_ltN)) ?_
  refine TL.nil ?_
  refine TQ.next ?_
  refine TC.seq ?_
  refine TC.cond rfl (fun c0 => ?_) (fun c0 => ?_)
  · try simp only [decide_eq_true_eq, decide_eq_false_iff_not, Bool.not_eq_true', Bool.not_eq_false', Bool.and_eq_true, Bool.or_eq_true, Nat.not_lt, Nat.not_le, beq_iff_eq, bne_iff_ne] at c0
    refine TC.skip ?_
    refine TQ.next ?_
    refine TC.seq ?_
    refine TC.block ?_
    refine TC.seq ?_
    refine TC.region ?_
    refine TL.val rfl rfl rfl (Y.move rfl rfl) ?_
    refine TL.val rfl rfl rfl (Y.assign rfl rfl) ?_
    refine TL.nil ?_
    refine TQ.next ?_
    obtain ⟨⟨st, kd, bs⟩, hx, hxm⟩ := getS (l := l) (i := k) (by omega)
    refine TC.know (dat_some (a := a) (l := l) inn (by omega)) ?_
    rintro ⟨mg, mo, rfl⟩
    have htk : l.take (k + 1) = l.take k ++ [(st, kd, bs)] := by rw [List.take_add_one, hx]; rfl
    refine TC.to ((Pull.ent (A := SA.dat (⟨some ⟨mg, mo, none⟩, cap, l⟩ : Sl Msg)) pul).trans (Ent.elem hxm)) ?_
    refine TC.draws 18 [SA.dat (⟨some ⟨mg, mo, none⟩, cap, l⟩ : Sl Msg)] (by kernel_rfl) (by kernel_rfl) (by repeat first | exact holds_nil | refine holds_cons inn ?_) ?_
    refine TA.take 0 rfl rfl rfl rfl (by kernel_rfl) (by kernel_rfl) (by kernel_rfl) rfl (by kernel_rfl) (by kernel_rfl) (fun _ _ _ h => h) (Y.move rfl rfl) ?_
    refine TA.takeP 1 rfl rfl rfl rfl (by kernel_rfl) (by kernel_rfl) (by kernel_rfl) rfl (fun _ _ _ h => h) (Y.move rfl rfl) ?_
    refine TA.takeP 2 rfl rfl rfl rfl (by kernel_rfl) (by kernel_rfl) (by kernel_rfl) rfl (fun _ _ _ h => h) (Y.move rfl rfl) ?_
    refine TA.takeP 3 rfl rfl rfl rfl (by kernel_rfl) (by kernel_rfl) (by kernel_rfl) rfl (fun _ _ _ h => h) (by first | exact Y.indexSlB rfl sl28 rfl rfl (by omega) nqq | exact Y.indexSl rfl sl28 rfl rfl (by omega) nqq) ?_
    refine TA.takeP 4 rfl rfl rfl rfl (by kernel_rfl) (by kernel_rfl) (by kernel_rfl) rfl (fun _ _ _ h => h) (by first | exact Y.fieldAddrJ rfl fo51_0 rfl nqq | exact Y.fieldAddr rfl fo51_0 rfl nqq) ?_
    refine TA.takeP 6 rfl rfl rfl rfl (by kernel_rfl) (by kernel_rfl) (by kernel_rfl) rfl (fun _ _ _ h => h) (Y.move rfl rfl) ?_
    refine TA.takeP 7 rfl rfl rfl rfl (by kernel_rfl) (by kernel_rfl) (by kernel_rfl) rfl (fun _ _ _ h => h) (Y.move rfl rfl) ?_
    refine TA.takeP 8 rfl rfl rfl rfl (by kernel_rfl) (by kernel_rfl) (by kernel_rfl) rfl (fun _ _ _ h => h) (by first | exact Y.indexSlB rfl sl28 rfl rfl (by omega) nqq | exact Y.indexSl rfl sl28 rfl rfl (by omega) nqq) ?_
    refine TA.takeP 9 rfl rfl rfl rfl (by kernel_rfl) (by kernel_rfl) (by kernel_rfl) rfl (fun _ _ _ h => h) (by first | exact Y.fieldAddrJ rfl fo51_1 rfl nqq | exact Y.fieldAddr rfl fo51_1 rfl nqq) ?_
    refine TA.takeP 11 rfl rfl rfl rfl (by kernel_rfl) (by kernel_rfl) (by kernel_rfl) rfl (fun _ _ _ h => h) (Y.move rfl rfl) ?_
    refine TA.takeP 12 rfl rfl rfl rfl (by kernel_rfl) (by kernel_rfl) (by kernel_rfl) rfl (fun _ _ _ h => h) (Y.move rfl rfl) ?_
    refine TA.takeP 13 rfl rfl rfl rfl (by kernel_rfl) (by kernel_rfl) (by kernel_rfl) rfl (fun _ _ _ h => h) (by first | exact Y.indexSlB rfl sl28 rfl rfl (by omega) nqq | exact Y.indexSl rfl sl28 rfl rfl (by omega) nqq) ?_
    refine TA.takeP 14 rfl rfl rfl rfl (by kernel_rfl) (by kernel_rfl) (by kernel_rfl) rfl (fun _ _ _ h => h) (by first | exact Y.fieldAddrJ rfl fo51_2 rfl nqq | exact Y.fieldAddr rfl fo51_2 rfl nqq) ?_
    refine TA.any (rs := [5, 10, 15]) (by kernel_rfl) (by simp) ?_
    simp only [List.forall_mem_cons, List.not_mem_nil, false_implies, implies_true, and_true]
    refine ⟨?_, ?_, ?_⟩
    · skip
      refine TAo.eff rfl rfl rfl rfl (Eff.val (fun _ h => by cases h) (Y.load rfl sc40 rfl cel16)) ?_
      rintro _ _ ⟨rfl, rfl⟩
      refine ⟨Or.inr (by repeat first | exact holds_nil | refine holds_cons inn ?_), ?_⟩
      refine TA.as (v16 st) (by rfl) ?_
      refine TA.any (rs := [10, 15]) (by kernel_rfl) (by simp) ?_
      simp only [List.forall_mem_cons, List.not_mem_nil, false_implies, implies_true, and_true]
      refine ⟨?_, ?_⟩
      · skip
        refine TAo.eff rfl rfl rfl rfl (Eff.val (fun _ h => by cases h) (Y.load rfl sc22 rfl cel32)) ?_
        rintro _ _ ⟨rfl, rfl⟩
        refine ⟨Or.inr (by repeat first | exact holds_nil | refine holds_cons inn ?_), ?_⟩
        refine TA.as (v32 kd) (by rfl) ?_
        refine TA.one 15 (by kernel_rfl) rfl rfl rfl rfl (Eff.val (fun _ h => by cases h) (Y.load rfl sc23 rfl celD)) ?_
        rintro _ _ ⟨rfl, rfl⟩
        refine ⟨Or.inr (by repeat first | exact holds_nil | refine holds_cons inn ?_), ?_⟩
        refine TA.as (.slice bs.a bs.l.length bs.cap) (by rfl) ?_
        refine TA.takeP 16 rfl rfl rfl rfl (by kernel_rfl) (by kernel_rfl) (by kernel_rfl) rfl (fun _ _ _ h => h) (Y.buildS (cells := #[v16 st, v32 kd, .slice bs.a bs.l.length bs.cap]) rfl rfl pl77 zc77 (by kernel_rfl)) ?_
        refine TA.as (.agg (Dat.c ((st, kd, bs) : Msg)).toArray) (by rfl) ?_
        refine TA.one 17 (by kernel_rfl) rfl rfl rfl rfl (X.litD (sz := 3) ((st, kd, bs) : Msg) rfl Try.underlying44 (by kernel_rfl) rfl rfl (by decide)) ?_
        rintro _ _ ⟨g27, rfl, rfl⟩
        refine ⟨(Or.inr (by repeat first | exact holds_nil | refine holds_cons inn ?_)), ?_⟩
        refine TA.one 18 (by kernel_rfl) rfl rfl rfl rfl (X.appendS rfl el44 rfl pul rfl (by first | exact Src.owns Try.underlying44 inn | exact Src.rds Try.underlying44 inn | exact Src.reads (by assumption) Try.underlying44 inn) (by simp only [maxLen]; omega) (by omega)) ?_
        rintro _ _ ⟨a28, c28, rfl, rfl⟩
        rw [show Dat.cs (l.take k) ++ Dat.c ((st, kd, bs) : Msg) = Dat.cs (l.take (k + 1)) by rw [htk, Dat.cs_app, Dat.cs_one]]
        refine ⟨(Or.inl (by kernel_rfl)), ?_⟩
        refine TA.takeP 19 rfl rfl rfl rfl (by kernel_rfl) (by kernel_rfl) (by kernel_rfl) rfl (fun _ _ _ h => h) (Y.assign rfl rfl) ?_
        refine TA.done (by kernel_rfl) ?_
        refine TQ.to (Ent.addEl (ys := l.take k) (x := ((st, kd, bs) : Msg)) pul pul) ?_
        rw [← htk]
        refine TQ.block_normal ?_
        refine TQ.next ?_
        refine TC.region ?_
        refine TL.val rfl rfl rfl (Y.bin rfl rfl rfl (br_addN (n := 1) (by omega))) ?_
        refine TL.val rfl rfl rfl (Y.move rfl rfl) ?_
        refine TL.nil ?_
        refine TQ.loopF ((k + 1, a28, c28)) (by show k + 1 ≤ _; omega) (by show l.length - (k + 1) < l.length - k; omega) ⟨rfl, rfl, trivial⟩ (by (repeat first | apply Grow.refl | apply Grow.step | apply Grow.app)) ?_ ?_ ?_
        · kernel_rfl
        · rfl
        · simp only [List.cons_append, List.nil_append]
          exact ett
      · skip
        refine TAo.eff rfl rfl rfl rfl (Eff.val (fun _ h => by cases h) (Y.load rfl sc23 rfl celD)) ?_
        rintro _ _ ⟨rfl, rfl⟩
        refine ⟨Or.inr (by repeat first | exact holds_nil | refine holds_cons inn ?_), ?_⟩
        refine TA.as (.slice bs.a bs.l.length bs.cap) (by rfl) ?_
        refine TA.one 10 (by kernel_rfl) rfl rfl rfl rfl (Eff.val (fun _ h => by cases h) (Y.load rfl sc22 rfl cel32)) ?_
        rintro _ _ ⟨rfl, rfl⟩
        refine ⟨Or.inr (by repeat first | exact holds_nil | refine holds_cons inn ?_), ?_⟩
        refine TA.as (v32 kd) (by rfl) ?_
        refine TA.takeP 16 rfl rfl rfl rfl (by kernel_rfl) (by kernel_rfl) (by kernel_rfl) rfl (fun _ _ _ h => h) (Y.buildS (cells := #[v16 st, v32 kd, .slice bs.a bs.l.length bs.cap]) rfl rfl pl77 zc77 (by kernel_rfl)) ?_
        refine TA.as (.agg (Dat.c ((st, kd, bs) : Msg)).toArray) (by rfl) ?_
        refine TA.one 17 (by kernel_rfl) rfl rfl rfl rfl (X.litD (sz := 3) ((st, kd, bs) : Msg) rfl Try.underlying44 (by kernel_rfl) rfl rfl (by decide)) ?_
        rintro _ _ ⟨g27, rfl, rfl⟩
        refine ⟨(Or.inr (by repeat first | exact holds_nil | refine holds_cons inn ?_)), ?_⟩
        refine TA.one 18 (by kernel_rfl) rfl rfl rfl rfl (X.appendS rfl el44 rfl pul rfl (by first | exact Src.owns Try.underlying44 inn | exact Src.rds Try.underlying44 inn | exact Src.reads (by assumption) Try.underlying44 inn) (by simp only [maxLen]; omega) (by omega)) ?_
        rintro _ _ ⟨a28, c28, rfl, rfl⟩
        rw [show Dat.cs (l.take k) ++ Dat.c ((st, kd, bs) : Msg) = Dat.cs (l.take (k + 1)) by rw [htk, Dat.cs_app, Dat.cs_one]]
        refine ⟨(Or.inl (by kernel_rfl)), ?_⟩
        refine TA.takeP 19 rfl rfl rfl rfl (by kernel_rfl) (by kernel_rfl) (by kernel_rfl) rfl (fun _ _ _ h => h) (Y.assign rfl rfl) ?_
        refine TA.done (by kernel_rfl) ?_
        refine TQ.to (Ent.addEl (ys := l.take k) (x := ((st, kd, bs) : Msg)) pul pul) ?_
        rw [← htk]
        refine TQ.block_normal ?_
        refine TQ.next ?_
        refine TC.region ?_
        refine TL.val rfl rfl rfl (Y.bin rfl rfl rfl (br_addN (n := 1) (by omega))) ?_
        refine TL.val rfl rfl rfl (Y.move rfl rfl) ?_
        refine TL.nil ?_
        refine TQ.loopF ((k + 1, a28, c28)) (by show k + 1 ≤ _; omega) (by show l.length - (k + 1) < l.length - k; omega) ⟨rfl, rfl, trivial⟩ (by (repeat first | apply Grow.refl | apply Grow.step | apply Grow.app)) ?_ ?_ ?_
        · kernel_rfl
        · rfl
        · simp only [List.cons_append, List.nil_append]
          exact ett
    · skip
      refine TAo.eff rfl rfl rfl rfl (Eff.val (fun _ h => by cases h) (Y.load rfl sc22 rfl cel32)) ?_
      rintro _ _ ⟨rfl, rfl⟩
      refine ⟨Or.inr (by repeat first | exact holds_nil | refine holds_cons inn ?_), ?_⟩
      refine TA.as (v32 kd) (by rfl) ?_
      refine TA.any (rs := [5, 15]) (by kernel_rfl) (by simp) ?_
      simp only [List.forall_mem_cons, List.not_mem_nil, false_implies, implies_true, and_true]
      refine ⟨?_, ?_⟩
      · skip
        refine TAo.eff rfl rfl rfl rfl (Eff.val (fun _ h => by cases h) (Y.load rfl sc40 rfl cel16)) ?_
        rintro _ _ ⟨rfl, rfl⟩
        refine ⟨Or.inr (by repeat first | exact holds_nil | refine holds_cons inn ?_), ?_⟩
        refine TA.as (v16 st) (by rfl) ?_
        refine TA.one 15 (by kernel_rfl) rfl rfl rfl rfl (Eff.val (fun _ h => by cases h) (Y.load rfl sc23 rfl celD)) ?_
        rintro _ _ ⟨rfl, rfl⟩
        refine ⟨Or.inr (by repeat first | exact holds_nil | refine holds_cons inn ?_), ?_⟩
        refine TA.as (.slice bs.a bs.l.length bs.cap) (by rfl) ?_
        refine TA.takeP 16 rfl rfl rfl rfl (by kernel_rfl) (by kernel_rfl) (by kernel_rfl) rfl (fun _ _ _ h => h) (Y.buildS (cells := #[v16 st, v32 kd, .slice bs.a bs.l.length bs.cap]) rfl rfl pl77 zc77 (by kernel_rfl)) ?_
        refine TA.as (.agg (Dat.c ((st, kd, bs) : Msg)).toArray) (by rfl) ?_
        refine TA.one 17 (by kernel_rfl) rfl rfl rfl rfl (X.litD (sz := 3) ((st, kd, bs) : Msg) rfl Try.underlying44 (by kernel_rfl) rfl rfl (by decide)) ?_
        rintro _ _ ⟨g27, rfl, rfl⟩
        refine ⟨(Or.inr (by repeat first | exact holds_nil | refine holds_cons inn ?_)), ?_⟩
        refine TA.one 18 (by kernel_rfl) rfl rfl rfl rfl (X.appendS rfl el44 rfl pul rfl (by first | exact Src.owns Try.underlying44 inn | exact Src.rds Try.underlying44 inn | exact Src.reads (by assumption) Try.underlying44 inn) (by simp only [maxLen]; omega) (by omega)) ?_
        rintro _ _ ⟨a28, c28, rfl, rfl⟩
        rw [show Dat.cs (l.take k) ++ Dat.c ((st, kd, bs) : Msg) = Dat.cs (l.take (k + 1)) by rw [htk, Dat.cs_app, Dat.cs_one]]
        refine ⟨(Or.inl (by kernel_rfl)), ?_⟩
        refine TA.takeP 19 rfl rfl rfl rfl (by kernel_rfl) (by kernel_rfl) (by kernel_rfl) rfl (fun _ _ _ h => h) (Y.assign rfl rfl) ?_
        refine TA.done (by kernel_rfl) ?_
        refine TQ.to (Ent.addEl (ys := l.take k) (x := ((st, kd, bs) : Msg)) pul pul) ?_
        rw [← htk]
        refine TQ.block_normal ?_
        refine TQ.next ?_
        refine TC.region ?_
        refine TL.val rfl rfl rfl (Y.bin rfl rfl rfl (br_addN (n := 1) (by omega))) ?_
        refine TL.val rfl rfl rfl (Y.move rfl rfl) ?_
        refine TL.nil ?_
        refine TQ.loopF ((k + 1, a28, c28)) (by show k + 1 ≤ _; omega) (by show l.length - (k + 1) < l.length - k; omega) ⟨rfl, rfl, trivial⟩ (by (repeat first | apply Grow.refl | apply Grow.step | apply Grow.app)) ?_ ?_ ?_
        · kernel_rfl
        · rfl
        · simp only [List.cons_append, List.nil_append]
          exact ett
      · skip
        refine TAo.eff rfl rfl rfl rfl (Eff.val (fun _ h => by cases h) (Y.load rfl sc23 rfl celD)) ?_
        rintro _ _ ⟨rfl, rfl⟩
        refine ⟨Or.inr (by repeat first | exact holds_nil | refine holds_cons inn ?_), ?_⟩
        refine TA.as (.slice bs.a bs.l.length bs.cap) (by rfl) ?_
        refine TA.one 5 (by kernel_rfl) rfl rfl rfl rfl (Eff.val (fun _ h => by cases h) (Y.load rfl sc40 rfl cel16)) ?_
        rintro _ _ ⟨rfl, rfl⟩
        refine ⟨Or.inr (by repeat first | exact holds_nil | refine holds_cons inn ?_), ?_⟩
        refine TA.as (v16 st) (by rfl) ?_
        refine TA.takeP 16 rfl rfl rfl rfl (by kernel_rfl) (by kernel_rfl) (by kernel_rfl) rfl (fun _ _ _ h => h) (Y.buildS (cells := #[v16 st, v32 kd, .slice bs.a bs.l.length bs.cap]) rfl rfl pl77 zc77 (by kernel_rfl)) ?_
        refine TA.as (.agg (Dat.c ((st, kd, bs) : Msg)).toArray) (by rfl) ?_
        refine TA.one 17 (by kernel_rfl) rfl rfl rfl rfl (X.litD (sz := 3) ((st, kd, bs) : Msg) rfl Try.underlying44 (by kernel_rfl) rfl rfl (by decide)) ?_
        rintro _ _ ⟨g27, rfl, rfl⟩
        refine ⟨(Or.inr (by repeat first | exact holds_nil | refine holds_cons inn ?_)), ?_⟩
        refine TA.one 18 (by kernel_rfl) rfl rfl rfl rfl (X.appendS rfl el44 rfl pul rfl (by first | exact Src.owns Try.underlying44 inn | exact Src.rds Try.underlying44 inn | exact Src.reads (by assumption) Try.underlying44 inn) (by simp only [maxLen]; omega) (by omega)) ?_
        rintro _ _ ⟨a28, c28, rfl, rfl⟩
        rw [show Dat.cs (l.take k) ++ Dat.c ((st, kd, bs) : Msg) = Dat.cs (l.take (k + 1)) by rw [htk, Dat.cs_app, Dat.cs_one]]
        refine ⟨(Or.inl (by kernel_rfl)), ?_⟩
        refine TA.takeP 19 rfl rfl rfl rfl (by kernel_rfl) (by kernel_rfl) (by kernel_rfl) rfl (fun _ _ _ h => h) (Y.assign rfl rfl) ?_
        refine TA.done (by kernel_rfl) ?_
        refine TQ.to (Ent.addEl (ys := l.take k) (x := ((st, kd, bs) : Msg)) pul pul) ?_
        rw [← htk]
        refine TQ.block_normal ?_
        refine TQ.next ?_
        refine TC.region ?_
        refine TL.val rfl rfl rfl (Y.bin rfl rfl rfl (br_addN (n := 1) (by omega))) ?_
        refine TL.val rfl rfl rfl (Y.move rfl rfl) ?_
        refine TL.nil ?_
        refine TQ.loopF ((k + 1, a28, c28)) (by show k + 1 ≤ _; omega) (by show l.length - (k + 1) < l.length - k; omega) ⟨rfl, rfl, trivial⟩ (by (repeat first | apply Grow.refl | apply Grow.step | apply Grow.app)) ?_ ?_ ?_
        · kernel_rfl
        · rfl
        · simp only [List.cons_append, List.nil_append]
          exact ett
    · skip
      refine TAo.eff rfl rfl rfl rfl (Eff.val (fun _ h => by cases h) (Y.load rfl sc23 rfl celD)) ?_
      rintro _ _ ⟨rfl, rfl⟩
      refine ⟨Or.inr (by repeat first | exact holds_nil | refine holds_cons inn ?_), ?_⟩
      refine TA.as (.slice bs.a bs.l.length bs.cap) (by rfl) ?_
      refine TA.any (rs := [5, 10]) (by kernel_rfl) (by simp) ?_
      simp only [List.forall_mem_cons, List.not_mem_nil, false_implies, implies_true, and_true]
      refine ⟨?_, ?_⟩
      · skip
        refine TAo.eff rfl rfl rfl rfl (Eff.val (fun _ h => by cases h) (Y.load rfl sc40 rfl cel16)) ?_
        rintro _ _ ⟨rfl, rfl⟩
        refine ⟨Or.inr (by repeat first | exact holds_nil | refine holds_cons inn ?_), ?_⟩
        refine TA.as (v16 st) (by rfl) ?_
        refine TA.one 10 (by kernel_rfl) rfl rfl rfl rfl (Eff.val (fun _ h => by cases h) (Y.load rfl sc22 rfl cel32)) ?_
        rintro _ _ ⟨rfl, rfl⟩
        refine ⟨Or.inr (by repeat first | exact holds_nil | refine holds_cons inn ?_), ?_⟩
        refine TA.as (v32 kd) (by rfl) ?_
        refine TA.takeP 16 rfl rfl rfl rfl (by kernel_rfl) (by kernel_rfl) (by kernel_rfl) rfl (fun _ _ _ h => h) (Y.buildS (cells := #[v16 st, v32 kd, .slice bs.a bs.l.length bs.cap]) rfl rfl pl77 zc77 (by kernel_rfl)) ?_
        refine TA.as (.agg (Dat.c ((st, kd, bs) : Msg)).toArray) (by rfl) ?_
        refine TA.one 17 (by kernel_rfl) rfl rfl rfl rfl (X.litD (sz := 3) ((st, kd, bs) : Msg) rfl Try.underlying44 (by kernel_rfl) rfl rfl (by decide)) ?_
        rintro _ _ ⟨g27, rfl, rfl⟩
        refine ⟨(Or.inr (by repeat first | exact holds_nil | refine holds_cons inn ?_)), ?_⟩
        refine TA.one 18 (by kernel_rfl) rfl rfl rfl rfl (X.appendS rfl el44 rfl pul rfl (by first | exact Src.owns Try.underlying44 inn | exact Src.rds Try.underlying44 inn | exact Src.reads (by assumption) Try.underlying44 inn) (by simp only [maxLen]; omega) (by omega)) ?_
        rintro _ _ ⟨a28, c28, rfl, rfl⟩
        rw [show Dat.cs (l.take k) ++ Dat.c ((st, kd, bs) : Msg) = Dat.cs (l.take (k + 1)) by rw [htk, Dat.cs_app, Dat.cs_one]]
        refine ⟨(Or.inl (by kernel_rfl)), ?_⟩
        refine TA.takeP 19 rfl rfl rfl rfl (by kernel_rfl) (by kernel_rfl) (by kernel_rfl) rfl (fun _ _ _ h => h) (Y.assign rfl rfl) ?_
        refine TA.done (by kernel_rfl) ?_
        refine TQ.to (Ent.addEl (ys := l.take k) (x := ((st, kd, bs) : Msg)) pul pul) ?_
        rw [← htk]
        refine TQ.block_normal ?_
        refine TQ.next ?_
        refine TC.region ?_
        refine TL.val rfl rfl rfl (Y.bin rfl rfl rfl (br_addN (n := 1) (by omega))) ?_
        refine TL.val rfl rfl rfl (Y.move rfl rfl) ?_
        refine TL.nil ?_
        refine TQ.loopF ((k + 1, a28, c28)) (by show k + 1 ≤ _; omega) (by show l.length - (k + 1) < l.length - k; omega) ⟨rfl, rfl, trivial⟩ (by (repeat first | apply Grow.refl | apply Grow.step | apply Grow.app)) ?_ ?_ ?_
        · kernel_rfl
        · rfl
        · simp only [List.cons_append, List.nil_append]
          exact ett
      · skip
        refine TAo.eff rfl rfl rfl rfl (Eff.val (fun _ h => by cases h) (Y.load rfl sc22 rfl cel32)) ?_
        rintro _ _ ⟨rfl, rfl⟩
        refine ⟨Or.inr (by repeat first | exact holds_nil | refine holds_cons inn ?_), ?_⟩
        refine TA.as (v32 kd) (by rfl) ?_
        refine TA.one 5 (by kernel_rfl) rfl rfl rfl rfl (Eff.val (fun _ h => by cases h) (Y.load rfl sc40 rfl cel16)) ?_
        rintro _ _ ⟨rfl, rfl⟩
        refine ⟨Or.inr (by repeat first | exact holds_nil | refine holds_cons inn ?_), ?_⟩
        refine TA.as (v16 st) (by rfl) ?_
        refine TA.takeP 16 rfl rfl rfl rfl (by kernel_rfl) (by kernel_rfl) (by kernel_rfl) rfl (fun _ _ _ h => h) (Y.buildS (cells := #[v16 st, v32 kd, .slice bs.a bs.l.length bs.cap]) rfl rfl pl77 zc77 (by kernel_rfl)) ?_
        refine TA.as (.agg (Dat.c ((st, kd, bs) : Msg)).toArray) (by rfl) ?_
        refine TA.one 17 (by kernel_rfl) rfl rfl rfl rfl (X.litD (sz := 3) ((st, kd, bs) : Msg) rfl Try.underlying44 (by kernel_rfl) rfl rfl (by decide)) ?_
        rintro _ _ ⟨g27, rfl, rfl⟩
        refine ⟨(Or.inr (by repeat first | exact holds_nil | refine holds_cons inn ?_)), ?_⟩
        refine TA.one 18 (by kernel_rfl) rfl rfl rfl rfl (X.appendS rfl el44 rfl pul rfl (by first | exact Src.owns Try.underlying44 inn | exact Src.rds Try.underlying44 inn | exact Src.reads (by assumption) Try.underlying44 inn) (by simp only [maxLen]; omega) (by omega)) ?_
        rintro _ _ ⟨a28, c28, rfl, rfl⟩
        rw [show Dat.cs (l.take k) ++ Dat.c ((st, kd, bs) : Msg) = Dat.cs (l.take (k + 1)) by rw [htk, Dat.cs_app, Dat.cs_one]]
        refine ⟨(Or.inl (by kernel_rfl)), ?_⟩
        refine TA.takeP 19 rfl rfl rfl rfl (by kernel_rfl) (by kernel_rfl) (by kernel_rfl) rfl (fun _ _ _ h => h) (Y.assign rfl rfl) ?_
        refine TA.done (by kernel_rfl) ?_
        refine TQ.to (Ent.addEl (ys := l.take k) (x := ((st, kd, bs) : Msg)) pul pul) ?_
        rw [← htk]
        refine TQ.block_normal ?_
        refine TQ.next ?_
        refine TC.region ?_
        refine TL.val rfl rfl rfl (Y.bin rfl rfl rfl (br_addN (n := 1) (by omega))) ?_
        refine TL.val rfl rfl rfl (Y.move rfl rfl) ?_
        refine TL.nil ?_
        refine TQ.loopF ((k + 1, a28, c28)) (by show k + 1 ≤ _; omega) (by show l.length - (k + 1) < l.length - k; omega) ⟨rfl, rfl, trivial⟩ (by (repeat first | apply Grow.refl | apply Grow.step | apply Grow.app)) ?_ ?_ ?_
        · kernel_rfl
        · rfl
        · simp only [List.cons_append, List.nil_append]
          exact ett
  · try simp only [decide_eq_true_eq, decide_eq_false_iff_not, Bool.not_eq_true', Bool.not_eq_false', Bool.and_eq_true, Bool.or_eq_true, Nat.not_lt, Nat.not_le, beq_iff_eq, bne_iff_ne] at c0
    obtain rfl : k = l.length := by omega
    rw [List.take_length]
    refine TC.to (Ent.mkOwn (a := ga) (l := l) pul pul rfl rfl rfl) ?_
    refine TC.exit ?_
    refine TQ.then_exit ?_
    refine TQ.then_exit ?_
    refine TQ.block_exit ?_
    refine TQ.next ?_
    refine TC.seq ?_
    refine TC.region ?_
    refine TL.val rfl rfl rfl (Y.move rfl rfl) ?_
    refine TL.val rfl rfl rfl (Y.assign rfl rfl) ?_
    refine TL.nil ?_
    refine TQ.next ?_
    refine TC.ret ?_
    refine TQ.retE (res1 rfl rfl) (⟨ga, gc, rfl, rfl⟩) ?_
    exact ett
end ac
end Go.Proofs.Ytomplpdeeomehaa
