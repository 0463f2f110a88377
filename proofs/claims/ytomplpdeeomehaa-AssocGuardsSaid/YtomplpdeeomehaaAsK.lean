/- assoc: AssocGuards, walked. -/
import Derived.Test.YtomplpdeeomehaaAsH
import Derived.Test.YtomplpdeeomehaaHAuto
namespace Go.Proofs.Ytomplpdeeomehaa
set_option linter.unusedVariables false
set_option linter.unusedSimpArgs false
open Go.RowKit
namespace ac
open wr (be16 be32)
open rd (num)
namespace FxAsK
set_option maxRecDepth 100000
theorem el23 : Elt Try.prog 23 5 1 1 (.int .u8 0) := ⟨Try.underlying23, by kernel_rfl, rfl, by decide, by simp [Value.cells, Value.oneCell']⟩
theorem sc23 : Program.isSc Try.prog 23 = true := by kernel_rfl
theorem sc5 : Program.isSc Try.prog 5 = true := by kernel_rfl
theorem sl23 : Program.slI Try.prog 23 = some 1 := by kernel_rfl
theorem sl24 : Program.slI Try.prog 24 = some 1 := by kernel_rfl
theorem sz5 : (Try.prog.info? 5).map (·.size) = some 1 := by kernel_rfl
end FxAsK
open FxAsK
theorem Ent.datBs {x : Bs} {L L1 : List SA} (h : Pull (SA.dat x) L L1) : Ent L (SA.rds 1 (.slice x.a x.l.length x.cap) x.l.length (x.l.map v8) :: L1) := h.ent.trans ((Ent.unSl (a := x.a) (cap := x.cap) (l := x.l)).trans (Ent.under _ Ent.drop))
theorem right_iff {l : List UInt8} (h8 : 8 ≤ l.length) (t : UInt32) : num64 (l.take 4) = t.toUInt64 ↔ n32 l 0 = t := by
  obtain ⟨x, y, z, u, h1, -⟩ := four (l := l) (k := 0) (by omega)
  rw [List.drop_zero] at h1
  have e : n32 l 0 = num [x, y, z, u] := by rw [n32, List.drop_zero, h1]
  rw [e, h1, ← UInt64.toNat_inj, num64_4, ← UInt32.toNat_inj]
  simp
theorem tagOf_ne (t : UInt32) : tagOf t ≠ 0 := by unfold tagOf; split <;> simp_all
set_option maxHeartbeats 2000000 in
theorem guards_fn (tag : UInt32) (ka : Option Addr) (kn kc : Nat) (key : List UInt8) (hk : key.length = kn) (hkl : kn ≤ 140737488351232) (ra : Option Addr) (rc : Nat) (raws : List Bs) (hr : ∀ x ∈ raws, x.l.length ≤ 140737488351232) (L : List SA) :
    Fn Try.prog 3 [v32 tag, .slice ka kn kc, .slice ra raws.length rc] (SA.rds 1 (.slice ka kn kc) kn (key.map v8) :: SA.dat (⟨ra, rc, raws⟩ : Sl Bs) :: L) (fun v L' => v = .bool true ∧ L' = SA.rds 1 (.slice ka kn kc) kn (key.map v8) :: SA.dat (⟨ra, rc, raws⟩ : Sl Bs) :: L) := by
  refine Fn.of (N := 80) Try.func3 rfl rfl ?_
  intro Xh
  refine TC.know (dat_cap (a := ra) (l := raws) inn) ?_
  rintro ⟨hc1, hc2, -⟩
  refine TC.seq ?_
  refine TC.region ?_
  refine TL.val rfl rfl rfl (Y.assign rfl rfl) ?_
  refine TL.nil ?_
  refine TQ.next ?_
  refine TC.seq ?_
  refine TC.seq ?_
  refine TC.region ?_
  refine TL.eff rfl rfl rfl (X.call rfl Try.func10 (by kernel_rfl) rfl rfl (Fn.preE (by repeat first | (with_reducible apply Ent.refl) | (apply Ent.cons; case h => first | (with_reducible (repeat first | apply Pull.here | apply Pull.there); done) | (repeat first | apply Pull.here | apply Pull.there))) (ac.awake_fn _))) ?_
  rintro _ _ ⟨rfl, rfl⟩
  refine TL.val rfl rfl rfl (Y.not rfl rfl) ?_
  refine TL.nil ?_
  refine TQ.next ?_
  refine TC.cond_f rfl ?_
  refine TC.skip ?_
  refine TQ.next ?_
  refine TC.seq ?_
  refine TC.region ?_
  refine TL.val rfl rfl rfl (Y.move rfl rfl) ?_
  refine TL.val rfl rfl rfl (Y.move rfl rfl) ?_
  refine TL.eff rfl rfl rfl (X.call rfl Try.func11 (by kernel_rfl) rfl rfl (Fn.preE (by repeat first | (with_reducible apply Ent.refl) | (apply Ent.cons; case h => first | (with_reducible (repeat first | apply Pull.here | apply Pull.there); done) | (repeat first | apply Pull.here | apply Pull.there))) (New_fn tag 7 ka kn kc key hk hkl _))) ?_
  rintro _ _ ⟨b18, p18, rfl, rfl⟩
  refine TL.val rfl rfl rfl (Y.assign rfl rfl) ?_
  refine TL.nil ?_
  refine TQ.next ?_
  refine TC.seq ?_
  refine TC.region ?_
  refine TL.val rfl rfl rfl (Y.move rfl rfl) ?_
  refine TL.val rfl rfl rfl (Y.maxK (n := 1) rfl rfl rfl) ?_
  refine TL.as (v32 (tagOf tag)) (by exact tagOf_v tag) ?_
  refine TL.val rfl rfl rfl (Y.assign rfl rfl) ?_
  refine TL.nil ?_
  refine TQ.next ?_
  refine TC.seq ?_
  refine TC.seq ?_
  refine TC.region ?_
  refine TL.val rfl rfl rfl (Y.move rfl rfl) ?_
  refine TL.val rfl rfl rfl (Y.len rfl Try.underlying24 rfl) ?_
  refine TL.val rfl rfl rfl (Y.move rfl rfl) ?_
  refine TL.nil ?_
  refine TQ.next ?_
  refine TC.block ?_
  refine TC.loopF (ι := Nat) [6] (fun k => k ≤ raws.length) (fun k => [(23, some (vN k))]) (fun k => [aB b18 p18 (newS tag 7 key)]) (fun k => raws.length - k) (0) (by omega) ⟨rfl, trivial⟩ (Pulls.cons pul Pulls.nil) ?_
  rintro k hk F' L' rfl hL'
  simp only [List.cons_append, List.nil_append] at hL'
  subst hL'
  refine TC.seq ?_
  refine TC.region ?_
  refine TL.val rfl rfl rfl (Y.bin rfl rfl rfl (br_ltN)) ?_
  refine TL.nil ?_
  refine TQ.next ?_
  refine TC.seq ?_
  refine TC.cond rfl (fun c1 => ?_) (fun c1 => ?_)
  · try simp only [decide_eq_true_eq, decide_eq_false_iff_not, Bool.not_eq_true', Bool.not_eq_false', Bool.and_eq_true, Bool.or_eq_true, Nat.not_lt, Nat.not_le, beq_iff_eq, bne_iff_ne] at c1
    refine TC.skip ?_
    refine TQ.next ?_
    refine TC.seq ?_
    refine TC.block ?_
    refine TC.seq ?_
    refine TC.region ?_
    refine TL.val rfl rfl rfl (Y.move rfl rfl) ?_
    refine TL.val rfl rfl rfl (Y.assign rfl rfl) ?_
    refine TL.nil ?_
    refine TQ.next ?_
    refine TC.seq ?_
    obtain ⟨⟨xa, xc, xl⟩, hx, hxm⟩ := getS (l := raws) (i := k) (by omega)
    have hxl : xl.length ≤ 140737488351232 := hr _ hxm
    refine TC.know (dat_some (a := ra) (l := raws) inn (by omega)) ?_
    rintro ⟨mg, mo, rfl⟩
    refine TC.region ?_
    refine TL.val rfl rfl rfl (Y.move rfl rfl) ?_
    refine TL.val rfl rfl rfl (Y.move rfl rfl) ?_
    refine TL.val rfl rfl rfl (by first | exact Y.indexSlB rfl sl24 rfl rfl (by omega) nqq | exact Y.indexSl rfl sl24 rfl rfl (by omega) nqq) ?_
    refine TL.val rfl rfl rfl (Y.load rfl sc23 rfl celD) ?_
    refine TL.as (.slice xa xl.length xc) (by rfl) ?_
    refine TL.val rfl rfl rfl (Y.assign rfl rfl) ?_
    refine TL.nil ?_
    refine TQ.to ((Pull.ent (A := SA.dat (⟨some ⟨mg, mo, none⟩, rc, raws⟩ : Sl Bs)) pul).trans (Ent.elem hxm)) ?_
    refine TQ.to (show Ent _ (SA.rds 1 (.slice xa xl.length xc) xl.length (xl.map v8) :: _) from Ent.datBs (x := ⟨xa, xc, xl⟩) pul) ?_
    refine TQ.next ?_
    refine TC.seq ?_
    refine TC.know (reads_cap Reads.rds (a := xa) (n := xl.length) (cap := xc) (cs := xl.map v8) inn) ?_
    rintro ⟨hxc, -, -, -⟩
    refine TC.region ?_
    refine TL.val rfl rfl rfl (Y.move rfl rfl) ?_
    refine TL.eff rfl rfl rfl (X.lit rfl el23 rfl rfl rfl (by decide) rfl) ?_
    rintro _ _ ⟨g32, rfl, rfl⟩
    refine TL.val rfl rfl rfl (Y.move rfl rfl) ?_
    refine TL.eff rfl rfl rfl (X.appendS rfl el23 rfl pul rfl (by first | exact Src.owns Try.underlying23 inn | exact Src.rds Try.underlying23 inn | exact Src.reads (by assumption) Try.underlying23 inn) (by simp only [maxLen]; omega) (by omega)) ?_
    rintro _ _ ⟨a34, c34, rfl, rfl⟩
    simp only [Nat.zero_add, List.nil_append]
    refine TL.to ((Pull.ent (A := SA.owns 5 1 (.slice a34 xl.length c34) xl.length (xl.map v8)) pul).trans Ent.freeze) ?_
    refine TL.eff rfl rfl rfl (X.call rfl Try.func12 (by kernel_rfl) rfl rfl (Fn.preE (by repeat first | (with_reducible apply Ent.refl) | (apply Ent.cons; case h => first | (with_reducible (repeat first | apply Pull.here | apply Pull.there); done) | (repeat first | apply Pull.here | apply Pull.there))) (Handle_idle b18 p18 (newS tag 7 key) a34 xl.length c34 xl rfl hxl 0 rfl (by show key.length ≤ _; omega) (newS tag 7 key) rfl (tagOf_ne tag) _))) ?_
    rintro _ _ ⟨o, e, S', rfl, he9, hS, rfl⟩
    refine TL.val rfl rfl rfl (Y.move rfl rfl) ?_
    refine TL.val rfl rfl rfl (Y.extract rfl rfl rfl) ?_
    refine TL.as (.slice o.a o.l.length o.cap) (by rfl) ?_
    refine TL.val rfl rfl rfl (Y.extract rfl rfl rfl) ?_
    refine TL.as (.slice none 0 0) (by rfl) ?_
    refine TL.val rfl rfl rfl (Y.extract rfl rfl rfl) ?_
    refine TL.as (vN e) (by rfl) ?_
    refine TL.val rfl rfl rfl (Y.assign rfl rfl) ?_
    refine TL.val rfl rfl rfl (Y.assign rfl rfl) ?_
    refine TL.val rfl rfl rfl (Y.assign rfl rfl) ?_
    refine TL.nil ?_
    refine TQ.next ?_
    refine TC.seq ?_
    refine TC.region ?_
    refine TL.val rfl rfl rfl (Y.move rfl rfl) ?_
    refine TL.val rfl rfl rfl (Y.len rfl Try.underlying23 rfl) ?_
    refine TL.val rfl rfl rfl (Y.bin rfl rfl rfl (br_geN (n := 8))) ?_
    refine TL.val rfl rfl rfl (Y.move rfl rfl) ?_
    refine TL.case (fun g10_3 => ?_) (fun g10_3 => ?_)
    · try simp only [decide_eq_true_eq, decide_eq_false_iff_not, Bool.not_eq_true', Bool.not_eq_false', Nat.not_lt, Nat.not_le, beq_iff_eq, bne_iff_ne] at g10_3
      refine TL.valG rfl rfl rfl (Y.move rfl rfl) ?_
      refine TL.valG rfl rfl rfl (Y.sliceHi2 (k := 4) rfl Try.underlying23 sz5 rfl rfl (by omega)) ?_
      refine TL.effG rfl rfl rfl (X.call rfl Try.func13 (by kernel_rfl) rfl rfl (Fn.preE (by repeat first | (with_reducible apply Ent.refl) | (apply Ent.cons; case h => first | (with_reducible (repeat first | apply Pull.here | apply Pull.there); done) | (repeat first | apply Pull.here | apply Pull.there))) (Number_gen (SA.rds 1 (.slice xa xl.length xc) xl.length (xl.map v8)) xa 4 xc (xl.take 4) (Reads.head8 Reads.rds (by omega)) (by rw [List.length_take]; omega) _))) ?_
      rintro _ _ ⟨rfl, rfl⟩
      refine TL.valG rfl rfl rfl (Y.move rfl rfl) ?_
      refine TL.valG rfl rfl rfl (Y.conv rfl Try.underlying22 Try.underlying32 rfl (cv_32_64)) ?_
      refine TL.valG rfl rfl rfl (Y.bin rfl rfl rfl (br_eq64)) ?_
      refine TL.val rfl rfl rfl (Y.pick_t rfl rfl rfl) ?_
      refine TL.val rfl rfl rfl (Y.assign rfl rfl) ?_
      refine TL.nil ?_
      refine TQ.next ?_
      refine TC.seq ?_
      refine TC.seq ?_
      refine TC.region ?_
      refine TL.val rfl rfl rfl (Y.move rfl rfl) ?_
      refine TL.nil ?_
      refine TQ.next ?_
      refine TC.cond rfl (fun c2 => ?_) (fun c2 => ?_)
      · try simp only [decide_eq_true_eq, decide_eq_false_iff_not, Bool.not_eq_true', Bool.not_eq_false', Bool.and_eq_true, Bool.or_eq_true, Nat.not_lt, Nat.not_le, beq_iff_eq, bne_iff_ne] at c2
        refine TC.seq ?_
        refine TC.region ?_
        refine TL.val rfl rfl rfl (Y.assign rfl rfl) ?_
        refine TL.nil ?_
        refine TQ.next ?_
        refine TC.ret ?_
        refine TQ.then_ret ?_
        refine TQ.block_ret ?_
        refine TQ.then_ret ?_
        refine TQ.then_ret ?_
        refine TQ.block_ret ?_
        refine TQ.then_ret ?_
        refine TQ.retE (res1 rfl rfl) (⟨rfl, rfl⟩) ?_
        exact ett
      · try simp only [decide_eq_true_eq, decide_eq_false_iff_not, Bool.not_eq_true', Bool.not_eq_false', Bool.and_eq_true, Bool.or_eq_true, Nat.not_lt, Nat.not_le, beq_iff_eq, bne_iff_ne] at c2
        refine TC.skip ?_
        refine TQ.next ?_
        refine TC.seq ?_
        obtain ⟨rfl, hf⟩ := hS (by rintro ⟨h8, ht⟩; first | omega | exact absurd ((right_iff h8 (tagOf tag)).2 ht) (by simpa using c2))
        refine TC.know (φ := e = 0 → ∃ g off, xa = some ⟨g, off, none⟩) (fun w hw he0 => reads_some Reads.rds (a := xa) (n := xl.length) (cap := xc) (cs := xl.map v8) inn (by have := (hf he0).1; omega) (by decide) w hw) ?_
        intro hxs
        refine TC.region ?_
        refine TL.val rfl rfl rfl (Y.move rfl rfl) ?_
        refine TL.val rfl rfl rfl (Y.bin rfl rfl rfl (br_eqN (n := 0))) ?_
        refine TL.val rfl rfl rfl (Y.move rfl rfl) ?_
        refine TL.case (fun g13_2 => ?_) (fun g13_2 => ?_)
        · try simp only [decide_eq_true_eq, decide_eq_false_iff_not, Bool.not_eq_true', Bool.not_eq_false', Nat.not_lt, Nat.not_le, beq_iff_eq, bne_iff_ne] at g13_2
          refine TL.valG rfl rfl rfl (Y.move rfl rfl) ?_
          refine TL.valG rfl rfl rfl (Y.len rfl Try.underlying23 rfl) ?_
          refine TL.valG rfl rfl rfl (Y.bin rfl rfl rfl (br_neN (n := 16))) ?_
          refine TL.is false (by (simp; exact (hf (by simpa using g13_2)).1)) ?_
          refine TL.valG rfl rfl rfl (Y.move rfl rfl) ?_
          refine TL.valG rfl rfl rfl (Y.move rfl rfl) ?_
          first
          | (obtain ⟨g, off, rfl⟩ := hxs (by simpa using g13_2)
             have hx4 := (hf (by simpa using g13_2)).2.1)
          | skip
          refine TL.valG rfl rfl rfl (by first | exact Y.indexSlB (j := 4) rfl sl23 rfl rfl (by omega) nqq | exact Y.indexSl (j := 4) rfl sl23 rfl rfl (by omega) nqq) ?_
          refine TL.valG rfl rfl rfl (Y.load rfl sc5 rfl cel8) ?_
          refine TL.as (v8 1) (by (rw [List.getD_eq_getElem?_getD, hx4]; rfl)) ?_
          refine TL.valG rfl rfl rfl (Y.bin rfl rfl rfl (br_ne8 (y := 1))) ?_
          refine TL.is false (by first | rfl | (simp only [decide_eq_true_eq, decide_eq_false_iff_not, Bool.not_eq_true', Bool.not_eq_false', Bool.not_eq_eq_eq_not, Bool.not_true, Bool.not_false, Nat.not_lt, Nat.not_le]; omega) | (simp [*]; done) | (simp; omega)) ?_
          refine TL.valG rfl rfl rfl (Y.pick_f rfl rfl rfl) ?_
          refine TL.valG rfl rfl rfl (Y.move rfl rfl) ?_
          refine TL.valG rfl rfl rfl (Y.move rfl rfl) ?_
          refine TL.valG rfl rfl rfl (Y.len rfl Try.underlying24 rfl) ?_
          refine TL.valG rfl rfl rfl (Y.bin rfl rfl rfl (br_neN (n := 1))) ?_
          refine TL.is false (by (simp; exact (hf (by simpa using g13_2)).2.2)) ?_
          refine TL.valG rfl rfl rfl (Y.pick_f rfl rfl rfl) ?_
          refine TL.val rfl rfl rfl (Y.pick_t rfl rfl rfl) ?_
          refine TL.val rfl rfl rfl (Y.move rfl rfl) ?_
          refine TL.valG rfl rfl rfl (Y.move rfl rfl) ?_
          refine TL.valG rfl rfl rfl (Y.len rfl Try.underlying28 rfl) ?_
          refine TL.valG rfl rfl rfl (Y.bin rfl rfl rfl (br_neN (n := 0))) ?_
          refine TL.is false (by first | rfl | (simp only [decide_eq_true_eq, decide_eq_false_iff_not, Bool.not_eq_true', Bool.not_eq_false', Bool.not_eq_eq_eq_not, Bool.not_true, Bool.not_false, Nat.not_lt, Nat.not_le]; omega) | (simp [*]; done) | (simp; omega)) ?_
          refine TL.val rfl rfl rfl (Y.pick_f rfl rfl rfl) ?_
          refine TL.val rfl rfl rfl (Y.move rfl rfl) ?_
          refine TL.valG rfl rfl rfl (Y.move rfl rfl) ?_
          refine TL.effG rfl rfl rfl (X.call rfl Try.func14 (by kernel_rfl) rfl rfl (Fn.preE (by repeat first | (with_reducible apply Ent.refl) | (apply Ent.cons; case h => first | (with_reducible (repeat first | apply Pull.here | apply Pull.there); done) | (repeat first | apply Pull.here | apply Pull.there))) (State_fn b18 p18 (newS tag 7 key) _))) ?_
          rintro _ _ ⟨rfl, rfl⟩
          refine TL.valG rfl rfl rfl (Y.bin rfl rfl rfl (br_neN (n := 0))) ?_
          refine TL.is false (by first | rfl | (simp only [decide_eq_true_eq, decide_eq_false_iff_not, Bool.not_eq_true', Bool.not_eq_false', Bool.not_eq_eq_eq_not, Bool.not_true, Bool.not_false, Nat.not_lt, Nat.not_le]; omega) | (simp [*]; done) | (simp; omega)) ?_
          refine TL.val rfl rfl rfl (Y.pick_f rfl rfl rfl) ?_
          refine TL.nil ?_
          refine TQ.next ?_
          refine TC.cond_f rfl ?_
          refine TC.skip ?_
          refine TQ.block_normal ?_
          refine TQ.next ?_
          refine TC.region ?_
          refine TL.val rfl rfl rfl (Y.bin rfl rfl rfl (br_addN (n := 1) (by omega))) ?_
          refine TL.val rfl rfl rfl (Y.move rfl rfl) ?_
          refine TL.nil ?_
          refine TQ.loopF (k + 1) (by omega) (by omega) ⟨rfl, trivial⟩ (by (repeat first | apply Grow.refl | apply Grow.step | apply Grow.app)) ?_ ?_ ?_
          · kernel_rfl
          · rfl
          · simp only [List.cons_append, List.nil_append]
            exact ett
        · try simp only [decide_eq_true_eq, decide_eq_false_iff_not, Bool.not_eq_true', Bool.not_eq_false', Nat.not_lt, Nat.not_le, beq_iff_eq, bne_iff_ne] at g13_2
          refine TL.not rfl rfl rfl ?_
          refine TL.not rfl rfl rfl ?_
          refine TL.not rfl rfl rfl ?_
          refine TL.not rfl rfl rfl ?_
          refine TL.not rfl rfl rfl ?_
          first
          | (obtain ⟨g, off, rfl⟩ := hxs (by simpa using g13_2)
             have hx4 := (hf (by simpa using g13_2)).2.1)
          | skip
          refine TL.not rfl rfl rfl ?_
          refine TL.not rfl rfl rfl ?_
          refine TL.not rfl rfl rfl ?_
          refine TL.not rfl rfl rfl ?_
          refine TL.not rfl rfl rfl ?_
          refine TL.not rfl rfl rfl ?_
          refine TL.not rfl rfl rfl ?_
          refine TL.not rfl rfl rfl ?_
          refine TL.not rfl rfl rfl ?_
          refine TL.val rfl rfl rfl (Y.pick_f rfl rfl rfl) ?_
          refine TL.val rfl rfl rfl (Y.move rfl rfl) ?_
          refine TL.valG rfl rfl rfl (Y.move rfl rfl) ?_
          refine TL.valG rfl rfl rfl (Y.len rfl Try.underlying28 rfl) ?_
          refine TL.valG rfl rfl rfl (Y.bin rfl rfl rfl (br_neN (n := 0))) ?_
          refine TL.is false (by first | rfl | (simp only [decide_eq_true_eq, decide_eq_false_iff_not, Bool.not_eq_true', Bool.not_eq_false', Bool.not_eq_eq_eq_not, Bool.not_true, Bool.not_false, Nat.not_lt, Nat.not_le]; omega) | (simp [*]; done) | (simp; omega)) ?_
          refine TL.val rfl rfl rfl (Y.pick_f rfl rfl rfl) ?_
          refine TL.val rfl rfl rfl (Y.move rfl rfl) ?_
          refine TL.valG rfl rfl rfl (Y.move rfl rfl) ?_
          refine TL.effG rfl rfl rfl (X.call rfl Try.func14 (by kernel_rfl) rfl rfl (Fn.preE (by repeat first | (with_reducible apply Ent.refl) | (apply Ent.cons; case h => first | (with_reducible (repeat first | apply Pull.here | apply Pull.there); done) | (repeat first | apply Pull.here | apply Pull.there))) (State_fn b18 p18 (newS tag 7 key) _))) ?_
          rintro _ _ ⟨rfl, rfl⟩
          refine TL.valG rfl rfl rfl (Y.bin rfl rfl rfl (br_neN (n := 0))) ?_
          refine TL.is false (by first | rfl | (simp only [decide_eq_true_eq, decide_eq_false_iff_not, Bool.not_eq_true', Bool.not_eq_false', Bool.not_eq_eq_eq_not, Bool.not_true, Bool.not_false, Nat.not_lt, Nat.not_le]; omega) | (simp [*]; done) | (simp; omega)) ?_
          refine TL.val rfl rfl rfl (Y.pick_f rfl rfl rfl) ?_
          refine TL.nil ?_
          refine TQ.next ?_
          refine TC.cond_f rfl ?_
          refine TC.skip ?_
          refine TQ.block_normal ?_
          refine TQ.next ?_
          refine TC.region ?_
          refine TL.val rfl rfl rfl (Y.bin rfl rfl rfl (br_addN (n := 1) (by omega))) ?_
          refine TL.val rfl rfl rfl (Y.move rfl rfl) ?_
          refine TL.nil ?_
          refine TQ.loopF (k + 1) (by omega) (by omega) ⟨rfl, trivial⟩ (by (repeat first | apply Grow.refl | apply Grow.step | apply Grow.app)) ?_ ?_ ?_
          · kernel_rfl
          · rfl
          · simp only [List.cons_append, List.nil_append]
            exact ett
    · try simp only [decide_eq_true_eq, decide_eq_false_iff_not, Bool.not_eq_true', Bool.not_eq_false', Nat.not_lt, Nat.not_le, beq_iff_eq, bne_iff_ne] at g10_3
      refine TL.not rfl rfl rfl ?_
      refine TL.not rfl rfl rfl ?_
      refine TL.not rfl rfl rfl ?_
      refine TL.not rfl rfl rfl ?_
      refine TL.not rfl rfl rfl ?_
      refine TL.not rfl rfl rfl ?_
      refine TL.val rfl rfl rfl (Y.pick_f rfl rfl rfl) ?_
      refine TL.val rfl rfl rfl (Y.assign rfl rfl) ?_
      refine TL.nil ?_
      refine TQ.next ?_
      refine TC.seq ?_
      refine TC.seq ?_
      refine TC.region ?_
      refine TL.val rfl rfl rfl (Y.move rfl rfl) ?_
      refine TL.nil ?_
      refine TQ.next ?_
      refine TC.cond_f rfl ?_
      refine TC.skip ?_
      refine TQ.next ?_
      refine TC.seq ?_
      obtain ⟨rfl, hf⟩ := hS (by rintro ⟨h8, ht⟩; first | omega | exact absurd ((right_iff h8 (tagOf tag)).2 ht) (by simpa using c2))
      refine TC.know (φ := e = 0 → ∃ g off, xa = some ⟨g, off, none⟩) (fun w hw he0 => reads_some Reads.rds (a := xa) (n := xl.length) (cap := xc) (cs := xl.map v8) inn (by have := (hf he0).1; omega) (by decide) w hw) ?_
      intro hxs
      refine TC.region ?_
      refine TL.val rfl rfl rfl (Y.move rfl rfl) ?_
      refine TL.val rfl rfl rfl (Y.bin rfl rfl rfl (br_eqN (n := 0))) ?_
      refine TL.val rfl rfl rfl (Y.move rfl rfl) ?_
      refine TL.case (fun g13_2 => ?_) (fun g13_2 => ?_)
      · try simp only [decide_eq_true_eq, decide_eq_false_iff_not, Bool.not_eq_true', Bool.not_eq_false', Nat.not_lt, Nat.not_le, beq_iff_eq, bne_iff_ne] at g13_2
        refine TL.valG rfl rfl rfl (Y.move rfl rfl) ?_
        refine TL.valG rfl rfl rfl (Y.len rfl Try.underlying23 rfl) ?_
        refine TL.valG rfl rfl rfl (Y.bin rfl rfl rfl (br_neN (n := 16))) ?_
        refine TL.is false (by (simp; exact (hf (by simpa using g13_2)).1)) ?_
        refine TL.valG rfl rfl rfl (Y.move rfl rfl) ?_
        refine TL.valG rfl rfl rfl (Y.move rfl rfl) ?_
        first
        | (obtain ⟨g, off, rfl⟩ := hxs (by simpa using g13_2)
           have hx4 := (hf (by simpa using g13_2)).2.1)
        | skip
        refine TL.valG rfl rfl rfl (by first | exact Y.indexSlB (j := 4) rfl sl23 rfl rfl (by omega) nqq | exact Y.indexSl (j := 4) rfl sl23 rfl rfl (by omega) nqq) ?_
        refine TL.valG rfl rfl rfl (Y.load rfl sc5 rfl cel8) ?_
        refine TL.as (v8 1) (by (rw [List.getD_eq_getElem?_getD, hx4]; rfl)) ?_
        refine TL.valG rfl rfl rfl (Y.bin rfl rfl rfl (br_ne8 (y := 1))) ?_
        refine TL.is false (by first | rfl | (simp only [decide_eq_true_eq, decide_eq_false_iff_not, Bool.not_eq_true', Bool.not_eq_false', Bool.not_eq_eq_eq_not, Bool.not_true, Bool.not_false, Nat.not_lt, Nat.not_le]; omega) | (simp [*]; done) | (simp; omega)) ?_
        refine TL.valG rfl rfl rfl (Y.pick_f rfl rfl rfl) ?_
        refine TL.valG rfl rfl rfl (Y.move rfl rfl) ?_
        refine TL.valG rfl rfl rfl (Y.move rfl rfl) ?_
        refine TL.valG rfl rfl rfl (Y.len rfl Try.underlying24 rfl) ?_
        refine TL.valG rfl rfl rfl (Y.bin rfl rfl rfl (br_neN (n := 1))) ?_
        refine TL.is false (by (simp; exact (hf (by simpa using g13_2)).2.2)) ?_
        refine TL.valG rfl rfl rfl (Y.pick_f rfl rfl rfl) ?_
        refine TL.val rfl rfl rfl (Y.pick_t rfl rfl rfl) ?_
        refine TL.val rfl rfl rfl (Y.move rfl rfl) ?_
        refine TL.valG rfl rfl rfl (Y.move rfl rfl) ?_
        refine TL.valG rfl rfl rfl (Y.len rfl Try.underlying28 rfl) ?_
        refine TL.valG rfl rfl rfl (Y.bin rfl rfl rfl (br_neN (n := 0))) ?_
        refine TL.is false (by first | rfl | (simp only [decide_eq_true_eq, decide_eq_false_iff_not, Bool.not_eq_true', Bool.not_eq_false', Bool.not_eq_eq_eq_not, Bool.not_true, Bool.not_false, Nat.not_lt, Nat.not_le]; omega) | (simp [*]; done) | (simp; omega)) ?_
        refine TL.val rfl rfl rfl (Y.pick_f rfl rfl rfl) ?_
        refine TL.val rfl rfl rfl (Y.move rfl rfl) ?_
        refine TL.valG rfl rfl rfl (Y.move rfl rfl) ?_
        refine TL.effG rfl rfl rfl (X.call rfl Try.func14 (by kernel_rfl) rfl rfl (Fn.preE (by repeat first | (with_reducible apply Ent.refl) | (apply Ent.cons; case h => first | (with_reducible (repeat first | apply Pull.here | apply Pull.there); done) | (repeat first | apply Pull.here | apply Pull.there))) (State_fn b18 p18 (newS tag 7 key) _))) ?_
        rintro _ _ ⟨rfl, rfl⟩
        refine TL.valG rfl rfl rfl (Y.bin rfl rfl rfl (br_neN (n := 0))) ?_
        refine TL.is false (by first | rfl | (simp only [decide_eq_true_eq, decide_eq_false_iff_not, Bool.not_eq_true', Bool.not_eq_false', Bool.not_eq_eq_eq_not, Bool.not_true, Bool.not_false, Nat.not_lt, Nat.not_le]; omega) | (simp [*]; done) | (simp; omega)) ?_
        refine TL.val rfl rfl rfl (Y.pick_f rfl rfl rfl) ?_
        refine TL.nil ?_
        refine TQ.next ?_
        refine TC.cond_f rfl ?_
        refine TC.skip ?_
        refine TQ.block_normal ?_
        refine TQ.next ?_
        refine TC.region ?_
        refine TL.val rfl rfl rfl (Y.bin rfl rfl rfl (br_addN (n := 1) (by omega))) ?_
        refine TL.val rfl rfl rfl (Y.move rfl rfl) ?_
        refine TL.nil ?_
        refine TQ.loopF (k + 1) (by omega) (by omega) ⟨rfl, trivial⟩ (by (repeat first | apply Grow.refl | apply Grow.step | apply Grow.app)) ?_ ?_ ?_
        · kernel_rfl
        · rfl
        · simp only [List.cons_append, List.nil_append]
          exact ett
      · try simp only [decide_eq_true_eq, decide_eq_false_iff_not, Bool.not_eq_true', Bool.not_eq_false', Nat.not_lt, Nat.not_le, beq_iff_eq, bne_iff_ne] at g13_2
        refine TL.not rfl rfl rfl ?_
        refine TL.not rfl rfl rfl ?_
        refine TL.not rfl rfl rfl ?_
        refine TL.not rfl rfl rfl ?_
        refine TL.not rfl rfl rfl ?_
        first
        | (obtain ⟨g, off, rfl⟩ := hxs (by simpa using g13_2)
           have hx4 := (hf (by simpa using g13_2)).2.1)
        | skip
        refine TL.not rfl rfl rfl ?_
        refine TL.not rfl rfl rfl ?_
        refine TL.not rfl rfl rfl ?_
        refine TL.not rfl rfl rfl ?_
        refine TL.not rfl rfl rfl ?_
        refine TL.not rfl rfl rfl ?_
        refine TL.not rfl rfl rfl ?_
        refine TL.not rfl rfl rfl ?_
        refine TL.not rfl rfl rfl ?_
        refine TL.val rfl rfl rfl (Y.pick_f rfl rfl rfl) ?_
        refine TL.val rfl rfl rfl (Y.move rfl rfl) ?_
        refine TL.valG rfl rfl rfl (Y.move rfl rfl) ?_
        refine TL.valG rfl rfl rfl (Y.len rfl Try.underlying28 rfl) ?_
        refine TL.valG rfl rfl rfl (Y.bin rfl rfl rfl (br_neN (n := 0))) ?_
        refine TL.is false (by first | rfl | (simp only [decide_eq_true_eq, decide_eq_false_iff_not, Bool.not_eq_true', Bool.not_eq_false', Bool.not_eq_eq_eq_not, Bool.not_true, Bool.not_false, Nat.not_lt, Nat.not_le]; omega) | (simp [*]; done) | (simp; omega)) ?_
        refine TL.val rfl rfl rfl (Y.pick_f rfl rfl rfl) ?_
        refine TL.val rfl rfl rfl (Y.move rfl rfl) ?_
        refine TL.valG rfl rfl rfl (Y.move rfl rfl) ?_
        refine TL.effG rfl rfl rfl (X.call rfl Try.func14 (by kernel_rfl) rfl rfl (Fn.preE (by repeat first | (with_reducible apply Ent.refl) | (apply Ent.cons; case h => first | (with_reducible (repeat first | apply Pull.here | apply Pull.there); done) | (repeat first | apply Pull.here | apply Pull.there))) (State_fn b18 p18 (newS tag 7 key) _))) ?_
        rintro _ _ ⟨rfl, rfl⟩
        refine TL.valG rfl rfl rfl (Y.bin rfl rfl rfl (br_neN (n := 0))) ?_
        refine TL.is false (by first | rfl | (simp only [decide_eq_true_eq, decide_eq_false_iff_not, Bool.not_eq_true', Bool.not_eq_false', Bool.not_eq_eq_eq_not, Bool.not_true, Bool.not_false, Nat.not_lt, Nat.not_le]; omega) | (simp [*]; done) | (simp; omega)) ?_
        refine TL.val rfl rfl rfl (Y.pick_f rfl rfl rfl) ?_
        refine TL.nil ?_
        refine TQ.next ?_
        refine TC.cond_f rfl ?_
        refine TC.skip ?_
        refine TQ.block_normal ?_
        refine TQ.next ?_
        refine TC.region ?_
        refine TL.val rfl rfl rfl (Y.bin rfl rfl rfl (br_addN (n := 1) (by omega))) ?_
        refine TL.val rfl rfl rfl (Y.move rfl rfl) ?_
        refine TL.nil ?_
        refine TQ.loopF (k + 1) (by omega) (by omega) ⟨rfl, trivial⟩ (by (repeat first | apply Grow.refl | apply Grow.step | apply Grow.app)) ?_ ?_ ?_
        · kernel_rfl
        · rfl
        · simp only [List.cons_append, List.nil_append]
          exact ett
  · try simp only [decide_eq_true_eq, decide_eq_false_iff_not, Bool.not_eq_true', Bool.not_eq_false', Bool.and_eq_true, Bool.or_eq_true, Nat.not_lt, Nat.not_le, beq_iff_eq, bne_iff_ne] at c1
    refine TC.exit ?_
    refine TQ.then_exit ?_
    refine TQ.then_exit ?_
    refine TQ.block_exit ?_
    refine TQ.next ?_
    refine TC.seq ?_
    refine TC.region ?_
    refine TL.val rfl rfl rfl (Y.assign rfl rfl) ?_
    refine TL.nil ?_
    refine TQ.next ?_
    refine TC.ret ?_
    refine TQ.retE (res1 rfl rfl) (⟨rfl, rfl⟩) ?_
    exact ett
variable {H : Type} {enc : TypeId × Value → H} {W : World} {base : Nat}
set_option maxRecDepth 100000 in
theorem guards_open {v1 v2 : Value} {t : Int} {d0 d1 d2 : DataW H} {p1 p2 : List MemPlace} (ht : (Lit.int .u32 t).wf = true) (o1 : Value.okWide Try.prog W .any base 23 v1) (k1 : DataW.Trod enc Try.prog W 0 (fun _ => true) true 23 v1 d1 p1)
    (o2 : Value.okWide Try.prog W .any base 24 v2) (k2 : DataW.Trod enc Try.prog W 0 (fun _ => true) true 24 v2 d2 p2)
    (hsz : (DataW.weightsEach Try.prog ([22, 23, 24] ++ []) ([d0, d1, d2] ++ [])).all (· ≤ reachBytes) = true) :
    Calls Try.prog 3 #[.int .u32 t, v1, v2] W fun e w' => e = .returned (.bool true) ∧ Fr [] W w' := by
  rw [wf_u32 ht]
  obtain ⟨a, cap, bs, rfl, h1, h2⟩ := open_bytes 1 o1 k1 hsz rfl rfl Try.underlying23 Try.underlying5 (by kernel_rfl) (by kernel_rfl)
  obtain ⟨⟨ra, rc, raws⟩, rfl, g1, -, g2⟩ := open_slice (Bd := fun s : Sl Bs => s.l.length * (Try.prog.bytesOf 23) ≤ reachBytes ∧ ∀ x ∈ s.l, _) (DatT.slice Try.underlying24 (by kernel_rfl) rfl (DatT.bytes Try.underlying23 Try.underlying5 (by kernel_rfl) (by kernel_rfl))) Try.underlying24 2 o2 k2 hsz rfl rfl
  refine Fn.topD (As := [_, SA.dat (⟨ra, rc, raws⟩ : Sl Bs)]) (guards_fn (UInt32.ofNat t.toNat) a _ cap bs rfl (Nat.le_trans h2 (by decide)) ra rc raws (fun x hx => Nat.le_trans (g2 x hx) (by decide)) [SA.old W]) (fun A hA => ?_)
  rcases hA.two with rfl | rfl
  · exact h1.arg (by decide)
  · exact SA.dat_arg g1
end ac
end Go.Proofs.Ytomplpdeeomehaa
