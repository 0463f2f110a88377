/- assoc: Handle, case by case, but for data and sack. -/
import Derived.Test.YtomplpdeeomehaaAsR
import Derived.Test.YtomplpdeeomehaaHAuto
namespace Go.Proofs.Ytomplpdeeomehaa
set_option linter.unusedVariables false
set_option linter.unusedSimpArgs false
open Go.RowKit
namespace ac
open wr (be16 be32)
open rd (num rdB rdL rdV)
namespace FxAsG
set_option maxRecDepth 100000
theorem fo66_0 : Program.fieldOff Try.prog 66 0 = some 0 := by kernel_rfl
theorem fo68_0 : Program.fieldOff Try.prog 68 0 = some 0 := by kernel_rfl
theorem fo68_11 : Program.fieldOff Try.prog 68 11 = some 11 := by kernel_rfl
theorem fo68_12 : Program.fieldOff Try.prog 68 12 = some 12 := by kernel_rfl
theorem fo68_3 : Program.fieldOff Try.prog 68 3 = some 3 := by kernel_rfl
theorem sc2 : Program.isSc Try.prog 2 = true := by kernel_rfl
theorem sc22 : Program.isSc Try.prog 22 = true := by kernel_rfl
theorem sc3 : Program.isSc Try.prog 3 = true := by kernel_rfl
theorem sz5 : (Try.prog.info? 5).map (·.size) = some 1 := by kernel_rfl
end FxAsG
open FxAsG
/-- a packet is formed, of a kind -/
structure Formed (l : List UInt8) (kd : UInt32) : Prop where
  len : 8 ≤ l.length
  low : n32 l 4 &&& 16777215 = 0
  kind : shr32 (n32 l 4) 24 = kd
  fits : fitsB kd.toUInt8 (l.length - 8) = true
  tagged : decide (n32 l 0 = 0) = decide (kd = 1)
theorem Reads.tail8 {A : SA} {n cap k : Nat} {a : Option Addr} {l : List UInt8} (h : Reads A 1 (.slice a n cap) n (l.map v8)) (hk : k ≤ n) : Reads A 1 (cutV a cap k n 1) (n - k) ((l.drop k).map v8) := fun w O R hp => by
  have := (h w O R hp).drop (k := k) hk
  rw [List.map_drop]
  simpa [cutV, dropV] using this
abbrev noOut (e : Nat) : Value := .tuple #[.slice none 0 0, .slice none 0 0, vN e]
section
variable (b : Nat) (p : AP) (S : AS Msg) (a : Option Addr) (n cap : Nat) (l : List UInt8) (hn : l.length = n) (hl : n ≤ 140737488351232) (now : Int)
include hn hl

theorem H_short (h : l.length < 8) (L : List SA) : Fn Try.prog 12 [pt b 0, .slice a n cap, vI now] (aB b p S :: SA.rds 1 (.slice a n cap) n (l.map v8) :: L) (fun v L' => v = noOut 2 ∧ L' = aB b p (S.clocked now) :: SA.rds 1 (.slice a n cap) n (l.map v8) :: L) := by
  have hb : rdB 4 (rdL 4 l false) (rdB 4 l false) = true := by
    unfold rdB rdL
    by_cases h4 : l.length < 4
    · simp [rdB, h4]
    · simp [rdB, h4]; omega
  refine Fn.of (N := 160) Try.func12 rfl rfl ?_
  intro Xh
  refine TC.seq ?_
  refine TC.region ?_
  refine TL.val rfl rfl rfl (Y.assign rfl rfl) ?_
  refine TL.val rfl rfl rfl (Y.assign rfl rfl) ?_
  refine TL.val rfl rfl rfl (Y.assign rfl rfl) ?_
  refine TL.nil ?_
  refine TQ.next ?_
  refine TC.seq ?_
  refine TC.seq ?_
  refine TC.region ?_
  refine TL.val rfl rfl rfl (Y.move rfl rfl) ?_
  refine TL.val rfl rfl rfl (by first | exact Y.eqNilP rfl Try.underlying26 rfl rfl | exact Y.eqNil0 rfl Try.underlying26 rfl rfl) ?_
  refine TL.nil ?_
  refine TQ.next ?_
  refine TC.cond_f rfl ?_
  refine TC.skip ?_
  refine TQ.next ?_
  refine TC.seq ?_
  refine TC.region ?_
  refine TL.val rfl rfl rfl (Y.move rfl rfl) ?_
  refine TL.val rfl rfl rfl (Y.move rfl rfl) ?_
  refine TL.val rfl rfl rfl (Y.nilCheck rfl rfl) ?_
  refine TL.val rfl rfl rfl (by first | exact Y.fieldAddrJ rfl fo68_11 rfl nqq | exact Y.fieldAddr rfl fo68_11 rfl nqq) ?_
  refine TL.val rfl rfl rfl (Y.load rfl sc2 rfl celN) ?_
  refine TL.as (vI S.clock) (by rfl) ?_
  refine TL.val rfl rfl rfl (Y.move rfl rfl) ?_
  refine TL.val rfl rfl rfl (Y.maxI rfl rfl rfl) ?_
  refine TL.as (vI (max S.clock now)) (by rfl) ?_
  refine TL.val rfl rfl rfl (Y.nilCheck rfl rfl) ?_
  refine TL.val rfl rfl rfl (by first | exact Y.fieldAddrJ rfl fo68_11 rfl nqq | exact Y.fieldAddr rfl fo68_11 rfl nqq) ?_
  refine TL.eff0 rfl rfl (X.store (cs' := asC p (S.clocked now)) rfl (by kernel_rfl) rfl rfl rfl pul (by show 11 < 17; decide) rfl) ?_
  rintro _ _ rfl
  refine TL.nil ?_
  refine TQ.next ?_
  refine TC.seq ?_
  refine TC.region ?_
  refine TL.val rfl rfl rfl (Y.move rfl rfl) ?_
  refine TL.eff rfl rfl rfl (X.call rfl Try.func26 (by kernel_rfl) rfl rfl (Fn.preE (by repeat first | (with_reducible apply Ent.refl) | (apply Ent.cons; case h => first | (with_reducible (repeat first | apply Pull.here | apply Pull.there); done) | (repeat first | apply Pull.here | apply Pull.there))) (rd.New_fn a n cap l hn hl _))) ?_
  rintro _ _ ⟨p28, rfl, rfl⟩
  refine TL.val rfl rfl rfl (Y.assign rfl rfl) ?_
  refine TL.nil ?_
  refine TQ.next ?_
  refine TC.seq ?_
  refine TC.region ?_
  refine TL.val rfl rfl rfl (Y.move rfl rfl) ?_
  refine TL.eff rfl rfl rfl (X.call rfl Try.func27 (by kernel_rfl) rfl rfl (Fn.preE (by repeat first | (with_reducible apply Ent.refl) | (apply Ent.cons; case h => first | (with_reducible (repeat first | apply Pull.here | apply Pull.there); done) | (repeat first | apply Pull.here | apply Pull.there))) (rd.U32_fn _ _ _ _))) ?_
  rintro _ _ ⟨rfl, rfl⟩
  refine TL.val rfl rfl rfl (Y.move rfl rfl) ?_
  refine TL.eff rfl rfl rfl (X.call rfl Try.func27 (by kernel_rfl) rfl rfl (Fn.preE (by repeat first | (with_reducible apply Ent.refl) | (apply Ent.cons; case h => first | (with_reducible (repeat first | apply Pull.here | apply Pull.there); done) | (repeat first | apply Pull.here | apply Pull.there))) (rd.U32_fn _ _ _ _))) ?_
  rintro _ _ ⟨rfl, rfl⟩
  refine TL.val rfl rfl rfl (Y.assign rfl rfl) ?_
  refine TL.val rfl rfl rfl (Y.assign rfl rfl) ?_
  refine TL.nil ?_
  refine TQ.next ?_
  refine TC.seq ?_
  refine TC.region ?_
  refine TL.val rfl rfl rfl (Y.move rfl rfl) ?_
  refine TL.val rfl rfl rfl (Y.bin rfl rfl rfl (br_shr32 (n := 24))) ?_
  refine TL.val rfl rfl rfl (Y.assign rfl rfl) ?_
  refine TL.nil ?_
  refine TQ.next ?_
  refine TC.seq ?_
  refine TC.seq ?_
  refine TC.region ?_
  refine TL.val rfl rfl rfl (Y.move rfl rfl) ?_
  refine TL.eff rfl rfl rfl (X.call rfl Try.func28 (by kernel_rfl) rfl rfl (Fn.preE (by repeat first | (with_reducible apply Ent.refl) | (apply Ent.cons; case h => first | (with_reducible (repeat first | apply Pull.here | apply Pull.there); done) | (repeat first | apply Pull.here | apply Pull.there))) (rd.Bad_fn _ _ _ _))) ?_
  rintro _ _ ⟨rfl, rfl⟩
  refine TL.val rfl rfl rfl (Y.move rfl rfl) ?_
  refine TL.is true (by exact hb) ?_
  refine TL.not rfl rfl rfl ?_
  refine TL.not rfl rfl rfl ?_
  refine TL.not rfl rfl rfl ?_
  refine TL.val rfl rfl rfl (Y.pick_t rfl rfl rfl) ?_
  refine TL.val rfl rfl rfl (Y.move rfl rfl) ?_
  refine TL.not rfl rfl rfl ?_
  refine TL.not rfl rfl rfl ?_
  refine TL.not rfl rfl rfl ?_
  refine TL.not rfl rfl rfl ?_
  refine TL.not rfl rfl rfl ?_
  refine TL.not rfl rfl rfl ?_
  refine TL.val rfl rfl rfl (Y.pick_t rfl rfl rfl) ?_
  refine TL.val rfl rfl rfl (Y.move rfl rfl) ?_
  refine TL.not rfl rfl rfl ?_
  refine TL.not rfl rfl rfl ?_
  refine TL.not rfl rfl rfl ?_
  refine TL.not rfl rfl rfl ?_
  refine TL.not rfl rfl rfl ?_
  refine TL.val rfl rfl rfl (Y.pick_t rfl rfl rfl) ?_
  refine TL.nil ?_
  refine TQ.next ?_
  refine TC.cond_t rfl ?_
  refine TC.seq ?_
  refine TC.region ?_
  refine TL.val rfl rfl rfl (Y.assign rfl rfl) ?_
  refine TL.val rfl rfl rfl (Y.assign rfl rfl) ?_
  refine TL.val rfl rfl rfl (Y.assign rfl rfl) ?_
  refine TL.nil ?_
  refine TQ.next ?_
  refine TC.ret ?_
  refine TQ.then_ret ?_
  refine TQ.retE (resL rfl (Res.tmp rfl (Res.tmp rfl (Res.tmp rfl Res.nil)))) (⟨rfl, rfl⟩) ?_
  exact ett
theorem H_form (h8 : 8 ≤ l.length) (h : n32 l 4 &&& 16777215 ≠ 0 ∨ fitsB (shr32 (n32 l 4) 24).toUInt8 (l.length - 8) = false ∨ decide (n32 l 0 = 0) ≠ decide (shr32 (n32 l 4) 24 = 1)) (L : List SA) :
    Fn Try.prog 12 [pt b 0, .slice a n cap, vI now] (aB b p S :: SA.rds 1 (.slice a n cap) n (l.map v8) :: L) (fun v L' => v = noOut 2 ∧ L' = aB b p (S.clocked now) :: SA.rds 1 (.slice a n cap) n (l.map v8) :: L) := by
  refine Fn.of (N := 160) Try.func12 rfl rfl ?_
  intro Xh
  refine TC.seq ?_
  refine TC.region ?_
  refine TL.val rfl rfl rfl (Y.assign rfl rfl) ?_
  refine TL.val rfl rfl rfl (Y.assign rfl rfl) ?_
  refine TL.val rfl rfl rfl (Y.assign rfl rfl) ?_
  refine TL.nil ?_
  refine TQ.next ?_
  refine TC.seq ?_
  refine TC.seq ?_
  refine TC.region ?_
  refine TL.val rfl rfl rfl (Y.move rfl rfl) ?_
  refine TL.val rfl rfl rfl (by first | exact Y.eqNilP rfl Try.underlying26 rfl rfl | exact Y.eqNil0 rfl Try.underlying26 rfl rfl) ?_
  refine TL.nil ?_
  refine TQ.next ?_
  refine TC.cond_f rfl ?_
  refine TC.skip ?_
  refine TQ.next ?_
  refine TC.seq ?_
  refine TC.region ?_
  refine TL.val rfl rfl rfl (Y.move rfl rfl) ?_
  refine TL.val rfl rfl rfl (Y.move rfl rfl) ?_
  refine TL.val rfl rfl rfl (Y.nilCheck rfl rfl) ?_
  refine TL.val rfl rfl rfl (by first | exact Y.fieldAddrJ rfl fo68_11 rfl nqq | exact Y.fieldAddr rfl fo68_11 rfl nqq) ?_
  refine TL.val rfl rfl rfl (Y.load rfl sc2 rfl celN) ?_
  refine TL.as (vI S.clock) (by rfl) ?_
  refine TL.val rfl rfl rfl (Y.move rfl rfl) ?_
  refine TL.val rfl rfl rfl (Y.maxI rfl rfl rfl) ?_
  refine TL.as (vI (max S.clock now)) (by rfl) ?_
  refine TL.val rfl rfl rfl (Y.nilCheck rfl rfl) ?_
  refine TL.val rfl rfl rfl (by first | exact Y.fieldAddrJ rfl fo68_11 rfl nqq | exact Y.fieldAddr rfl fo68_11 rfl nqq) ?_
  refine TL.eff0 rfl rfl (X.store (cs' := asC p (S.clocked now)) rfl (by kernel_rfl) rfl rfl rfl pul (by show 11 < 17; decide) rfl) ?_
  rintro _ _ rfl
  refine TL.nil ?_
  refine TQ.next ?_
  refine TC.seq ?_
  refine TC.region ?_
  refine TL.val rfl rfl rfl (Y.move rfl rfl) ?_
  refine TL.eff rfl rfl rfl (X.call rfl Try.func26 (by kernel_rfl) rfl rfl (Fn.preE (by repeat first | (with_reducible apply Ent.refl) | (apply Ent.cons; case h => first | (with_reducible (repeat first | apply Pull.here | apply Pull.there); done) | (repeat first | apply Pull.here | apply Pull.there))) (rd.New_fn a n cap l hn hl _))) ?_
  rintro _ _ ⟨p28, rfl, rfl⟩
  refine TL.val rfl rfl rfl (Y.assign rfl rfl) ?_
  refine TL.nil ?_
  refine TQ.next ?_
  refine TC.seq ?_
  refine TC.region ?_
  refine TL.val rfl rfl rfl (Y.move rfl rfl) ?_
  refine TL.eff rfl rfl rfl (X.call rfl Try.func27 (by kernel_rfl) rfl rfl (Fn.preE (by repeat first | (with_reducible apply Ent.refl) | (apply Ent.cons; case h => first | (with_reducible (repeat first | apply Pull.here | apply Pull.there); done) | (repeat first | apply Pull.here | apply Pull.there))) (u32_ok p28 l (by omega) _))) ?_
  rintro _ _ ⟨rfl, rfl⟩
  rw [show num (l.take 4) = n32 l 0 from rfl]
  refine TL.val rfl rfl rfl (Y.move rfl rfl) ?_
  refine TL.eff rfl rfl rfl (X.call rfl Try.func27 (by kernel_rfl) rfl rfl (Fn.preE (by repeat first | (with_reducible apply Ent.refl) | (apply Ent.cons; case h => first | (with_reducible (repeat first | apply Pull.here | apply Pull.there); done) | (repeat first | apply Pull.here | apply Pull.there))) (u32_ok p28 (l.drop 4) (by rw [List.length_drop]; omega) _))) ?_
  rintro _ _ ⟨rfl, rfl⟩
  rw [show num ((l.drop 4).take 4) = n32 l 4 from rfl, List.drop_drop]
  refine TL.val rfl rfl rfl (Y.assign rfl rfl) ?_
  refine TL.val rfl rfl rfl (Y.assign rfl rfl) ?_
  refine TL.nil ?_
  refine TQ.next ?_
  refine TC.seq ?_
  refine TC.region ?_
  refine TL.val rfl rfl rfl (Y.move rfl rfl) ?_
  refine TL.val rfl rfl rfl (Y.bin rfl rfl rfl (br_shr32 (n := 24))) ?_
  refine TL.val rfl rfl rfl (Y.assign rfl rfl) ?_
  refine TL.nil ?_
  refine TQ.next ?_
  refine TC.seq ?_
  refine TC.seq ?_
  refine TC.region ?_
  refine TL.val rfl rfl rfl (Y.move rfl rfl) ?_
  refine TL.eff rfl rfl rfl (X.call rfl Try.func28 (by kernel_rfl) rfl rfl (Fn.preE (by repeat first | (with_reducible apply Ent.refl) | (apply Ent.cons; case h => first | (with_reducible (repeat first | apply Pull.here | apply Pull.there); done) | (repeat first | apply Pull.here | apply Pull.there))) (rd.Bad_fn _ _ _ _))) ?_
  rintro _ _ ⟨rfl, rfl⟩
  refine TL.val rfl rfl rfl (Y.move rfl rfl) ?_
  refine TL.valG rfl rfl rfl (Y.move rfl rfl) ?_
  refine TL.valG rfl rfl rfl (Y.bin rfl rfl rfl (br_and32 (y := 16777215))) ?_
  refine TL.valG rfl rfl rfl (Y.bin rfl rfl rfl (br_ne32 (y := 0))) ?_
  refine TL.val rfl rfl rfl (Y.pick_f rfl rfl rfl) ?_
  refine TL.val rfl rfl rfl (Y.move rfl rfl) ?_
  refine TL.case (fun g7_7 => ?_) (fun g7_7 => ?_)
  · try simp only [decide_eq_true_eq, decide_eq_false_iff_not, Bool.not_eq_true', Bool.not_eq_false', Nat.not_lt, Nat.not_le, beq_iff_eq, bne_iff_ne] at g7_7
    refine TL.not rfl rfl rfl ?_
    refine TL.not rfl rfl rfl ?_
    refine TL.not rfl rfl rfl ?_
    refine TL.not rfl rfl rfl ?_
    refine TL.not rfl rfl rfl ?_
    refine TL.not rfl rfl rfl ?_
    refine TL.val rfl rfl rfl (Y.pick_t rfl rfl rfl) ?_
    refine TL.val rfl rfl rfl (Y.move rfl rfl) ?_
    refine TL.not rfl rfl rfl ?_
    refine TL.not rfl rfl rfl ?_
    refine TL.not rfl rfl rfl ?_
    refine TL.not rfl rfl rfl ?_
    refine TL.not rfl rfl rfl ?_
    refine TL.val rfl rfl rfl (Y.pick_t rfl rfl rfl) ?_
    refine TL.nil ?_
    refine TQ.next ?_
    refine TC.cond_t rfl ?_
    refine TC.seq ?_
    refine TC.region ?_
    refine TL.val rfl rfl rfl (Y.assign rfl rfl) ?_
    refine TL.val rfl rfl rfl (Y.assign rfl rfl) ?_
    refine TL.val rfl rfl rfl (Y.assign rfl rfl) ?_
    refine TL.nil ?_
    refine TQ.next ?_
    refine TC.ret ?_
    refine TQ.then_ret ?_
    refine TQ.retE (resL rfl (Res.tmp rfl (Res.tmp rfl (Res.tmp rfl Res.nil)))) (⟨rfl, rfl⟩) ?_
    exact ett
  · try simp only [decide_eq_true_eq, decide_eq_false_iff_not, Bool.not_eq_true', Bool.not_eq_false', Nat.not_lt, Nat.not_le, beq_iff_eq, bne_iff_ne] at g7_7
    refine TL.valG rfl rfl rfl (Y.move rfl rfl) ?_
    refine TL.valG rfl rfl rfl (Y.conv rfl Try.underlying22 Try.underlying5 rfl (cv_32_8)) ?_
    refine TL.valG rfl rfl rfl (Y.move rfl rfl) ?_
    refine TL.effG rfl rfl rfl (X.call rfl Try.func30 (by kernel_rfl) rfl rfl (Fn.preE (by repeat first | (with_reducible apply Ent.refl) | (apply Ent.cons; case h => first | (with_reducible (repeat first | apply Pull.here | apply Pull.there); done) | (repeat first | apply Pull.here | apply Pull.there))) (rd.Left_fn _ _ _ _))) ?_
    rintro _ _ ⟨rfl, rfl⟩
    refine TL.as (vN (l.length - 8)) (by (rw [List.length_drop])) ?_
    refine TL.effG rfl rfl rfl (X.call rfl Try.func29 (by kernel_rfl) rfl rfl (Fn.preE (by repeat first | (with_reducible apply Ent.refl) | (apply Ent.cons; case h => first | (with_reducible (repeat first | apply Pull.here | apply Pull.there); done) | (repeat first | apply Pull.here | apply Pull.there))) (fits_fn (shr32 (n32 l 4) 24).toUInt8 (l.length - 8) (by omega) _))) ?_
    rintro _ _ ⟨rfl, rfl⟩
    refine TL.valG rfl rfl rfl (Y.not rfl rfl) ?_
    refine TL.val rfl rfl rfl (Y.pick_f rfl rfl rfl) ?_
    refine TL.val rfl rfl rfl (Y.move rfl rfl) ?_
    refine TL.case (fun g7_15 => ?_) (fun g7_15 => ?_)
    · try simp only [decide_eq_true_eq, decide_eq_false_iff_not, Bool.not_eq_true', Bool.not_eq_false', Nat.not_lt, Nat.not_le, beq_iff_eq, bne_iff_ne] at g7_15
      refine TL.not rfl rfl rfl ?_
      refine TL.not rfl rfl rfl ?_
      refine TL.not rfl rfl rfl ?_
      refine TL.not rfl rfl rfl ?_
      refine TL.not rfl rfl rfl ?_
      refine TL.val rfl rfl rfl (Y.pick_t rfl rfl rfl) ?_
      refine TL.nil ?_
      refine TQ.next ?_
      refine TC.cond_t rfl ?_
      refine TC.seq ?_
      refine TC.region ?_
      refine TL.val rfl rfl rfl (Y.assign rfl rfl) ?_
      refine TL.val rfl rfl rfl (Y.assign rfl rfl) ?_
      refine TL.val rfl rfl rfl (Y.assign rfl rfl) ?_
      refine TL.nil ?_
      refine TQ.next ?_
      refine TC.ret ?_
      refine TQ.then_ret ?_
      refine TQ.retE (resL rfl (Res.tmp rfl (Res.tmp rfl (Res.tmp rfl Res.nil)))) (⟨rfl, rfl⟩) ?_
      exact ett
    · try simp only [decide_eq_true_eq, decide_eq_false_iff_not, Bool.not_eq_true', Bool.not_eq_false', Nat.not_lt, Nat.not_le, beq_iff_eq, bne_iff_ne] at g7_15
      refine TL.valG rfl rfl rfl (Y.move rfl rfl) ?_
      refine TL.valG rfl rfl rfl (Y.bin rfl rfl rfl (br_eq32 (y := 0))) ?_
      refine TL.valG rfl rfl rfl (Y.move rfl rfl) ?_
      refine TL.valG rfl rfl rfl (Y.bin rfl rfl rfl (br_eq32 (y := 1))) ?_
      refine TL.valG rfl rfl rfl (Y.neBool rfl Try.underlying4 rfl rfl) ?_
      refine TL.is true (by (by_cases e1 : n32 l 0 = 0 <;> by_cases e2 : shr32 (n32 l 4) 24 = 1 <;> simp_all)) ?_
      refine TL.val rfl rfl rfl (Y.pick_f rfl rfl rfl) ?_
      refine TL.nil ?_
      refine TQ.next ?_
      refine TC.cond_t rfl ?_
      refine TC.seq ?_
      refine TC.region ?_
      refine TL.val rfl rfl rfl (Y.assign rfl rfl) ?_
      refine TL.val rfl rfl rfl (Y.assign rfl rfl) ?_
      refine TL.val rfl rfl rfl (Y.assign rfl rfl) ?_
      refine TL.nil ?_
      refine TQ.next ?_
      refine TC.ret ?_
      refine TQ.then_ret ?_
      refine TQ.retE (resL rfl (Res.tmp rfl (Res.tmp rfl (Res.tmp rfl Res.nil)))) (⟨rfl, rfl⟩) ?_
      exact ett

theorem H_zero1 (kd : UInt32) (hF : Formed l kd) (hkd : kd = 1) (h0 : n32 l 8 = 0) (L : List SA) : Fn Try.prog 12 [pt b 0, .slice a n cap, vI now] (aB b p S :: SA.rds 1 (.slice a n cap) n (l.map v8) :: L) (fun v L' => v = noOut 2 ∧ L' = aB b p (S.clocked now) :: SA.rds 1 (.slice a n cap) n (l.map v8) :: L) := by
  have hlen := hF.len
  have hl1 : l.length = 16 := by have := hF.fits; subst hkd; simp [fitsB] at this; omega
  refine Fn.of (N := 160) Try.func12 rfl rfl ?_
  intro Xh
  refine TC.seq ?_
  refine TC.region ?_
  refine TL.val rfl rfl rfl (Y.assign rfl rfl) ?_
  refine TL.val rfl rfl rfl (Y.assign rfl rfl) ?_
  refine TL.val rfl rfl rfl (Y.assign rfl rfl) ?_
  refine TL.nil ?_
  refine TQ.next ?_
  refine TC.seq ?_
  refine TC.seq ?_
  refine TC.region ?_
  refine TL.val rfl rfl rfl (Y.move rfl rfl) ?_
  refine TL.val rfl rfl rfl (by first | exact Y.eqNilP rfl Try.underlying26 rfl rfl | exact Y.eqNil0 rfl Try.underlying26 rfl rfl) ?_
  refine TL.nil ?_
  refine TQ.next ?_
  refine TC.cond_f rfl ?_
  refine TC.skip ?_
  refine TQ.next ?_
  refine TC.seq ?_
  refine TC.region ?_
  refine TL.val rfl rfl rfl (Y.move rfl rfl) ?_
  refine TL.val rfl rfl rfl (Y.move rfl rfl) ?_
  refine TL.val rfl rfl rfl (Y.nilCheck rfl rfl) ?_
  refine TL.val rfl rfl rfl (by first | exact Y.fieldAddrJ rfl fo68_11 rfl nqq | exact Y.fieldAddr rfl fo68_11 rfl nqq) ?_
  refine TL.val rfl rfl rfl (Y.load rfl sc2 rfl celN) ?_
  refine TL.as (vI S.clock) (by rfl) ?_
  refine TL.val rfl rfl rfl (Y.move rfl rfl) ?_
  refine TL.val rfl rfl rfl (Y.maxI rfl rfl rfl) ?_
  refine TL.as (vI (max S.clock now)) (by rfl) ?_
  refine TL.val rfl rfl rfl (Y.nilCheck rfl rfl) ?_
  refine TL.val rfl rfl rfl (by first | exact Y.fieldAddrJ rfl fo68_11 rfl nqq | exact Y.fieldAddr rfl fo68_11 rfl nqq) ?_
  refine TL.eff0 rfl rfl (X.store (cs' := asC p (S.clocked now)) rfl (by kernel_rfl) rfl rfl rfl pul (by show 11 < 17; decide) rfl) ?_
  rintro _ _ rfl
  refine TL.nil ?_
  refine TQ.next ?_
  refine TC.seq ?_
  refine TC.region ?_
  refine TL.val rfl rfl rfl (Y.move rfl rfl) ?_
  refine TL.eff rfl rfl rfl (X.call rfl Try.func26 (by kernel_rfl) rfl rfl (Fn.preE (by repeat first | (with_reducible apply Ent.refl) | (apply Ent.cons; case h => first | (with_reducible (repeat first | apply Pull.here | apply Pull.there); done) | (repeat first | apply Pull.here | apply Pull.there))) (rd.New_fn a n cap l hn hl _))) ?_
  rintro _ _ ⟨p28, rfl, rfl⟩
  refine TL.val rfl rfl rfl (Y.assign rfl rfl) ?_
  refine TL.nil ?_
  refine TQ.next ?_
  refine TC.seq ?_
  refine TC.region ?_
  refine TL.val rfl rfl rfl (Y.move rfl rfl) ?_
  refine TL.eff rfl rfl rfl (X.call rfl Try.func27 (by kernel_rfl) rfl rfl (Fn.preE (by repeat first | (with_reducible apply Ent.refl) | (apply Ent.cons; case h => first | (with_reducible (repeat first | apply Pull.here | apply Pull.there); done) | (repeat first | apply Pull.here | apply Pull.there))) (u32_ok p28 l (by omega) _))) ?_
  rintro _ _ ⟨rfl, rfl⟩
  rw [show num (l.take 4) = n32 l 0 from rfl]
  refine TL.val rfl rfl rfl (Y.move rfl rfl) ?_
  refine TL.eff rfl rfl rfl (X.call rfl Try.func27 (by kernel_rfl) rfl rfl (Fn.preE (by repeat first | (with_reducible apply Ent.refl) | (apply Ent.cons; case h => first | (with_reducible (repeat first | apply Pull.here | apply Pull.there); done) | (repeat first | apply Pull.here | apply Pull.there))) (u32_ok p28 (l.drop 4) (by rw [List.length_drop]; omega) _))) ?_
  rintro _ _ ⟨rfl, rfl⟩
  rw [show num ((l.drop 4).take 4) = n32 l 4 from rfl, List.drop_drop]
  refine TL.val rfl rfl rfl (Y.assign rfl rfl) ?_
  refine TL.val rfl rfl rfl (Y.assign rfl rfl) ?_
  refine TL.nil ?_
  refine TQ.next ?_
  refine TC.seq ?_
  refine TC.region ?_
  refine TL.val rfl rfl rfl (Y.move rfl rfl) ?_
  refine TL.val rfl rfl rfl (Y.bin rfl rfl rfl (br_shr32 (n := 24))) ?_
  refine TL.as (v32 kd) (by (rw [← hF.kind])) ?_
  refine TL.val rfl rfl rfl (Y.assign rfl rfl) ?_
  refine TL.nil ?_
  refine TQ.next ?_
  refine TC.seq ?_
  refine TC.seq ?_
  refine TC.region ?_
  refine TL.val rfl rfl rfl (Y.move rfl rfl) ?_
  refine TL.eff rfl rfl rfl (X.call rfl Try.func28 (by kernel_rfl) rfl rfl (Fn.preE (by repeat first | (with_reducible apply Ent.refl) | (apply Ent.cons; case h => first | (with_reducible (repeat first | apply Pull.here | apply Pull.there); done) | (repeat first | apply Pull.here | apply Pull.there))) (rd.Bad_fn _ _ _ _))) ?_
  rintro _ _ ⟨rfl, rfl⟩
  refine TL.val rfl rfl rfl (Y.move rfl rfl) ?_
  refine TL.valG rfl rfl rfl (Y.move rfl rfl) ?_
  refine TL.valG rfl rfl rfl (Y.bin rfl rfl rfl (br_and32 (y := 16777215))) ?_
  refine TL.valG rfl rfl rfl (Y.bin rfl rfl rfl (br_ne32 (y := 0))) ?_
  refine TL.is false (by (simpa using hF.low)) ?_
  refine TL.val rfl rfl rfl (Y.pick_f rfl rfl rfl) ?_
  refine TL.val rfl rfl rfl (Y.move rfl rfl) ?_
  refine TL.valG rfl rfl rfl (Y.move rfl rfl) ?_
  refine TL.valG rfl rfl rfl (Y.conv rfl Try.underlying22 Try.underlying5 rfl (cv_32_8)) ?_
  refine TL.valG rfl rfl rfl (Y.move rfl rfl) ?_
  refine TL.effG rfl rfl rfl (X.call rfl Try.func30 (by kernel_rfl) rfl rfl (Fn.preE (by repeat first | (with_reducible apply Ent.refl) | (apply Ent.cons; case h => first | (with_reducible (repeat first | apply Pull.here | apply Pull.there); done) | (repeat first | apply Pull.here | apply Pull.there))) (rd.Left_fn _ _ _ _))) ?_
  rintro _ _ ⟨rfl, rfl⟩
  refine TL.as (vN (l.length - 8)) (by (rw [List.length_drop])) ?_
  refine TL.effG rfl rfl rfl (X.call rfl Try.func29 (by kernel_rfl) rfl rfl (Fn.preE (by repeat first | (with_reducible apply Ent.refl) | (apply Ent.cons; case h => first | (with_reducible (repeat first | apply Pull.here | apply Pull.there); done) | (repeat first | apply Pull.here | apply Pull.there))) (fits_fn kd.toUInt8 (l.length - 8) (by omega) _))) ?_
  rintro _ _ ⟨rfl, rfl⟩
  refine TL.valG rfl rfl rfl (Y.not rfl rfl) ?_
  refine TL.is false (by (rw [hF.fits]; rfl)) ?_
  refine TL.val rfl rfl rfl (Y.pick_f rfl rfl rfl) ?_
  refine TL.val rfl rfl rfl (Y.move rfl rfl) ?_
  refine TL.valG rfl rfl rfl (Y.move rfl rfl) ?_
  refine TL.valG rfl rfl rfl (Y.bin rfl rfl rfl (br_eq32 (y := 0))) ?_
  refine TL.valG rfl rfl rfl (Y.move rfl rfl) ?_
  refine TL.valG rfl rfl rfl (Y.bin rfl rfl rfl (br_eq32 (y := 1))) ?_
  refine TL.valG rfl rfl rfl (Y.neBool rfl Try.underlying4 rfl rfl) ?_
  refine TL.is false (by (have := hF.tagged; by_cases e1 : n32 l 0 = 0 <;> by_cases e2 : kd = 1 <;> simp_all <;> rw [beq_eq_false_iff_ne.2 e1, beq_eq_false_iff_ne.2 e2])) ?_
  refine TL.val rfl rfl rfl (Y.pick_f rfl rfl rfl) ?_
  refine TL.nil ?_
  refine TQ.next ?_
  refine TC.cond_f rfl ?_
  refine TC.skip ?_
  refine TQ.next ?_
  refine TC.seq ?_
  refine TC.seq ?_
  refine TC.region ?_
  refine TL.val rfl rfl rfl (Y.move rfl rfl) ?_
  refine TL.val rfl rfl rfl (Y.bin rfl rfl rfl (br_leN (n := 2))) ?_
  refine TL.is true (by (subst hkd; decide)) ?_
  refine TL.val rfl rfl rfl (Y.move rfl rfl) ?_
  refine TL.valG rfl rfl rfl (Y.move rfl rfl) ?_
  refine TL.valG rfl rfl rfl (Y.sliceLo (k := 8) rfl Try.underlying23 sz5 rfl rfl (by omega)) ?_
  refine TL.effG rfl rfl rfl (X.call rfl Try.func26 (by kernel_rfl) rfl rfl (Fn.preE (by repeat first | (with_reducible apply Ent.refl) | (apply Ent.cons; case h => first | (with_reducible (repeat first | apply Pull.here | apply Pull.there); done) | (repeat first | apply Pull.here | apply Pull.there))) (rd.New_gen (SA.rds 1 (.slice a n cap) n (l.map v8)) _ (n - 8) (cap - 8) (l.drop 8) (Reads.tail8 Reads.rds (by omega)) (by rw [List.length_drop]; omega) (by omega) _))) ?_
  rintro _ _ ⟨p62, rfl, rfl⟩
  refine TL.effG rfl rfl rfl (X.call rfl Try.func27 (by kernel_rfl) rfl rfl (Fn.preE (by repeat first | (with_reducible apply Ent.refl) | (apply Ent.cons; case h => first | (with_reducible (repeat first | apply Pull.here | apply Pull.there); done) | (repeat first | apply Pull.here | apply Pull.there))) (u32_ok p62 (l.drop 8) (by rw [List.length_drop]; omega) _))) ?_
  rintro _ _ ⟨rfl, rfl⟩
  rw [show num ((l.drop 8).take 4) = n32 l 8 from rfl]
  refine TL.valG rfl rfl rfl (Y.bin rfl rfl rfl (br_eq32 (y := 0))) ?_
  refine TL.is true (by (rw [h0]; rfl)) ?_
  refine TL.val rfl rfl rfl (Y.pick_t rfl rfl rfl) ?_
  refine TL.nil ?_
  refine TQ.next ?_
  refine TC.cond_t rfl ?_
  refine TC.seq ?_
  refine TC.region ?_
  refine TL.val rfl rfl rfl (Y.assign rfl rfl) ?_
  refine TL.val rfl rfl rfl (Y.assign rfl rfl) ?_
  refine TL.val rfl rfl rfl (Y.assign rfl rfl) ?_
  refine TL.nil ?_
  refine TQ.next ?_
  refine TC.ret ?_
  refine TQ.then_ret ?_
  refine TQ.retE (resL rfl (Res.tmp rfl (Res.tmp rfl (Res.tmp rfl Res.nil)))) (⟨rfl, rfl⟩) ?_
  exact ett

theorem H_zero2 (kd : UInt32) (hF : Formed l kd) (hkd : kd = 2) (h0 : n32 l 8 = 0) (L : List SA) : Fn Try.prog 12 [pt b 0, .slice a n cap, vI now] (aB b p S :: SA.rds 1 (.slice a n cap) n (l.map v8) :: L) (fun v L' => v = noOut 2 ∧ L' = aB b p (S.clocked now) :: SA.rds 1 (.slice a n cap) n (l.map v8) :: L) := by
  have hlen := hF.len
  have hl1 : l.length = 52 := by have := hF.fits; subst hkd; simp [fitsB] at this; omega
  refine Fn.of (N := 160) Try.func12 rfl rfl ?_
  intro Xh
  refine TC.seq ?_
  refine TC.region ?_
  refine TL.val rfl rfl rfl (Y.assign rfl rfl) ?_
  refine TL.val rfl rfl rfl (Y.assign rfl rfl) ?_
  refine TL.val rfl rfl rfl (Y.assign rfl rfl) ?_
  refine TL.nil ?_
  refine TQ.next ?_
  refine TC.seq ?_
  refine TC.seq ?_
  refine TC.region ?_
  refine TL.val rfl rfl rfl (Y.move rfl rfl) ?_
  refine TL.val rfl rfl rfl (by first | exact Y.eqNilP rfl Try.underlying26 rfl rfl | exact Y.eqNil0 rfl Try.underlying26 rfl rfl) ?_
  refine TL.nil ?_
  refine TQ.next ?_
  refine TC.cond_f rfl ?_
  refine TC.skip ?_
  refine TQ.next ?_
  refine TC.seq ?_
  refine TC.region ?_
  refine TL.val rfl rfl rfl (Y.move rfl rfl) ?_
  refine TL.val rfl rfl rfl (Y.move rfl rfl) ?_
  refine TL.val rfl rfl rfl (Y.nilCheck rfl rfl) ?_
  refine TL.val rfl rfl rfl (by first | exact Y.fieldAddrJ rfl fo68_11 rfl nqq | exact Y.fieldAddr rfl fo68_11 rfl nqq) ?_
  refine TL.val rfl rfl rfl (Y.load rfl sc2 rfl celN) ?_
  refine TL.as (vI S.clock) (by rfl) ?_
  refine TL.val rfl rfl rfl (Y.move rfl rfl) ?_
  refine TL.val rfl rfl rfl (Y.maxI rfl rfl rfl) ?_
  refine TL.as (vI (max S.clock now)) (by rfl) ?_
  refine TL.val rfl rfl rfl (Y.nilCheck rfl rfl) ?_
  refine TL.val rfl rfl rfl (by first | exact Y.fieldAddrJ rfl fo68_11 rfl nqq | exact Y.fieldAddr rfl fo68_11 rfl nqq) ?_
  refine TL.eff0 rfl rfl (X.store (cs' := asC p (S.clocked now)) rfl (by kernel_rfl) rfl rfl rfl pul (by show 11 < 17; decide) rfl) ?_
  rintro _ _ rfl
  refine TL.nil ?_
  refine TQ.next ?_
  refine TC.seq ?_
  refine TC.region ?_
  refine TL.val rfl rfl rfl (Y.move rfl rfl) ?_
  refine TL.eff rfl rfl rfl (X.call rfl Try.func26 (by kernel_rfl) rfl rfl (Fn.preE (by repeat first | (with_reducible apply Ent.refl) | (apply Ent.cons; case h => first | (with_reducible (repeat first | apply Pull.here | apply Pull.there); done) | (repeat first | apply Pull.here | apply Pull.there))) (rd.New_fn a n cap l hn hl _))) ?_
  rintro _ _ ⟨p28, rfl, rfl⟩
  refine TL.val rfl rfl rfl (Y.assign rfl rfl) ?_
  refine TL.nil ?_
  refine TQ.next ?_
  refine TC.seq ?_
  refine TC.region ?_
  refine TL.val rfl rfl rfl (Y.move rfl rfl) ?_
  refine TL.eff rfl rfl rfl (X.call rfl Try.func27 (by kernel_rfl) rfl rfl (Fn.preE (by repeat first | (with_reducible apply Ent.refl) | (apply Ent.cons; case h => first | (with_reducible (repeat first | apply Pull.here | apply Pull.there); done) | (repeat first | apply Pull.here | apply Pull.there))) (u32_ok p28 l (by omega) _))) ?_
  rintro _ _ ⟨rfl, rfl⟩
  rw [show num (l.take 4) = n32 l 0 from rfl]
  refine TL.val rfl rfl rfl (Y.move rfl rfl) ?_
  refine TL.eff rfl rfl rfl (X.call rfl Try.func27 (by kernel_rfl) rfl rfl (Fn.preE (by repeat first | (with_reducible apply Ent.refl) | (apply Ent.cons; case h => first | (with_reducible (repeat first | apply Pull.here | apply Pull.there); done) | (repeat first | apply Pull.here | apply Pull.there))) (u32_ok p28 (l.drop 4) (by rw [List.length_drop]; omega) _))) ?_
  rintro _ _ ⟨rfl, rfl⟩
  rw [show num ((l.drop 4).take 4) = n32 l 4 from rfl, List.drop_drop]
  refine TL.val rfl rfl rfl (Y.assign rfl rfl) ?_
  refine TL.val rfl rfl rfl (Y.assign rfl rfl) ?_
  refine TL.nil ?_
  refine TQ.next ?_
  refine TC.seq ?_
  refine TC.region ?_
  refine TL.val rfl rfl rfl (Y.move rfl rfl) ?_
  refine TL.val rfl rfl rfl (Y.bin rfl rfl rfl (br_shr32 (n := 24))) ?_
  refine TL.as (v32 kd) (by (rw [← hF.kind])) ?_
  refine TL.val rfl rfl rfl (Y.assign rfl rfl) ?_
  refine TL.nil ?_
  refine TQ.next ?_
  refine TC.seq ?_
  refine TC.seq ?_
  refine TC.region ?_
  refine TL.val rfl rfl rfl (Y.move rfl rfl) ?_
  refine TL.eff rfl rfl rfl (X.call rfl Try.func28 (by kernel_rfl) rfl rfl (Fn.preE (by repeat first | (with_reducible apply Ent.refl) | (apply Ent.cons; case h => first | (with_reducible (repeat first | apply Pull.here | apply Pull.there); done) | (repeat first | apply Pull.here | apply Pull.there))) (rd.Bad_fn _ _ _ _))) ?_
  rintro _ _ ⟨rfl, rfl⟩
  refine TL.val rfl rfl rfl (Y.move rfl rfl) ?_
  refine TL.valG rfl rfl rfl (Y.move rfl rfl) ?_
  refine TL.valG rfl rfl rfl (Y.bin rfl rfl rfl (br_and32 (y := 16777215))) ?_
  refine TL.valG rfl rfl rfl (Y.bin rfl rfl rfl (br_ne32 (y := 0))) ?_
  refine TL.is false (by (simpa using hF.low)) ?_
  refine TL.val rfl rfl rfl (Y.pick_f rfl rfl rfl) ?_
  refine TL.val rfl rfl rfl (Y.move rfl rfl) ?_
  refine TL.valG rfl rfl rfl (Y.move rfl rfl) ?_
  refine TL.valG rfl rfl rfl (Y.conv rfl Try.underlying22 Try.underlying5 rfl (cv_32_8)) ?_
  refine TL.valG rfl rfl rfl (Y.move rfl rfl) ?_
  refine TL.effG rfl rfl rfl (X.call rfl Try.func30 (by kernel_rfl) rfl rfl (Fn.preE (by repeat first | (with_reducible apply Ent.refl) | (apply Ent.cons; case h => first | (with_reducible (repeat first | apply Pull.here | apply Pull.there); done) | (repeat first | apply Pull.here | apply Pull.there))) (rd.Left_fn _ _ _ _))) ?_
  rintro _ _ ⟨rfl, rfl⟩
  refine TL.as (vN (l.length - 8)) (by (rw [List.length_drop])) ?_
  refine TL.effG rfl rfl rfl (X.call rfl Try.func29 (by kernel_rfl) rfl rfl (Fn.preE (by repeat first | (with_reducible apply Ent.refl) | (apply Ent.cons; case h => first | (with_reducible (repeat first | apply Pull.here | apply Pull.there); done) | (repeat first | apply Pull.here | apply Pull.there))) (fits_fn kd.toUInt8 (l.length - 8) (by omega) _))) ?_
  rintro _ _ ⟨rfl, rfl⟩
  refine TL.valG rfl rfl rfl (Y.not rfl rfl) ?_
  refine TL.is false (by (rw [hF.fits]; rfl)) ?_
  refine TL.val rfl rfl rfl (Y.pick_f rfl rfl rfl) ?_
  refine TL.val rfl rfl rfl (Y.move rfl rfl) ?_
  refine TL.valG rfl rfl rfl (Y.move rfl rfl) ?_
  refine TL.valG rfl rfl rfl (Y.bin rfl rfl rfl (br_eq32 (y := 0))) ?_
  refine TL.valG rfl rfl rfl (Y.move rfl rfl) ?_
  refine TL.valG rfl rfl rfl (Y.bin rfl rfl rfl (br_eq32 (y := 1))) ?_
  refine TL.valG rfl rfl rfl (Y.neBool rfl Try.underlying4 rfl rfl) ?_
  refine TL.is false (by (have := hF.tagged; by_cases e1 : n32 l 0 = 0 <;> by_cases e2 : kd = 1 <;> simp_all <;> rw [beq_eq_false_iff_ne.2 e1, beq_eq_false_iff_ne.2 e2])) ?_
  refine TL.val rfl rfl rfl (Y.pick_f rfl rfl rfl) ?_
  refine TL.nil ?_
  refine TQ.next ?_
  refine TC.cond_f rfl ?_
  refine TC.skip ?_
  refine TQ.next ?_
  refine TC.seq ?_
  refine TC.seq ?_
  refine TC.region ?_
  refine TL.val rfl rfl rfl (Y.move rfl rfl) ?_
  refine TL.val rfl rfl rfl (Y.bin rfl rfl rfl (br_leN (n := 2))) ?_
  refine TL.is true (by (subst hkd; decide)) ?_
  refine TL.val rfl rfl rfl (Y.move rfl rfl) ?_
  refine TL.valG rfl rfl rfl (Y.move rfl rfl) ?_
  refine TL.valG rfl rfl rfl (Y.sliceLo (k := 8) rfl Try.underlying23 sz5 rfl rfl (by omega)) ?_
  refine TL.effG rfl rfl rfl (X.call rfl Try.func26 (by kernel_rfl) rfl rfl (Fn.preE (by repeat first | (with_reducible apply Ent.refl) | (apply Ent.cons; case h => first | (with_reducible (repeat first | apply Pull.here | apply Pull.there); done) | (repeat first | apply Pull.here | apply Pull.there))) (rd.New_gen (SA.rds 1 (.slice a n cap) n (l.map v8)) _ (n - 8) (cap - 8) (l.drop 8) (Reads.tail8 Reads.rds (by omega)) (by rw [List.length_drop]; omega) (by omega) _))) ?_
  rintro _ _ ⟨p62, rfl, rfl⟩
  refine TL.effG rfl rfl rfl (X.call rfl Try.func27 (by kernel_rfl) rfl rfl (Fn.preE (by repeat first | (with_reducible apply Ent.refl) | (apply Ent.cons; case h => first | (with_reducible (repeat first | apply Pull.here | apply Pull.there); done) | (repeat first | apply Pull.here | apply Pull.there))) (u32_ok p62 (l.drop 8) (by rw [List.length_drop]; omega) _))) ?_
  rintro _ _ ⟨rfl, rfl⟩
  rw [show num ((l.drop 8).take 4) = n32 l 8 from rfl]
  refine TL.valG rfl rfl rfl (Y.bin rfl rfl rfl (br_eq32 (y := 0))) ?_
  refine TL.is true (by (rw [h0]; rfl)) ?_
  refine TL.val rfl rfl rfl (Y.pick_t rfl rfl rfl) ?_
  refine TL.nil ?_
  refine TQ.next ?_
  refine TC.cond_t rfl ?_
  refine TC.seq ?_
  refine TC.region ?_
  refine TL.val rfl rfl rfl (Y.assign rfl rfl) ?_
  refine TL.val rfl rfl rfl (Y.assign rfl rfl) ?_
  refine TL.val rfl rfl rfl (Y.assign rfl rfl) ?_
  refine TL.nil ?_
  refine TQ.next ?_
  refine TC.ret ?_
  refine TQ.then_ret ?_
  refine TQ.retE (resL rfl (Res.tmp rfl (Res.tmp rfl (Res.tmp rfl Res.nil)))) (⟨rfl, rfl⟩) ?_
  exact ett

theorem H_init_no (kd : UInt32) (hF : Formed l kd) (hkd : kd = 1) (h0 : n32 l 8 ≠ 0) (hs0 : S.state ≠ 0) (hs3 : S.state ≠ 3) (L : List SA) : Fn Try.prog 12 [pt b 0, .slice a n cap, vI now] (aB b p S :: SA.rds 1 (.slice a n cap) n (l.map v8) :: L) (fun v L' => v = noOut 9 ∧ L' = aB b p (S.clocked now) :: SA.rds 1 (.slice a n cap) n (l.map v8) :: L) := by
  have hlen := hF.len
  have hl1 : l.length = 16 := by have := hF.fits; subst hkd; simp [fitsB] at this; omega
  refine Fn.of (N := 160) Try.func12 rfl rfl ?_
  intro Xh
  refine TC.seq ?_
  refine TC.region ?_
  refine TL.val rfl rfl rfl (Y.assign rfl rfl) ?_
  refine TL.val rfl rfl rfl (Y.assign rfl rfl) ?_
  refine TL.val rfl rfl rfl (Y.assign rfl rfl) ?_
  refine TL.nil ?_
  refine TQ.next ?_
  refine TC.seq ?_
  refine TC.seq ?_
  refine TC.region ?_
  refine TL.val rfl rfl rfl (Y.move rfl rfl) ?_
  refine TL.val rfl rfl rfl (by first | exact Y.eqNilP rfl Try.underlying26 rfl rfl | exact Y.eqNil0 rfl Try.underlying26 rfl rfl) ?_
  refine TL.nil ?_
  refine TQ.next ?_
  refine TC.cond_f rfl ?_
  refine TC.skip ?_
  refine TQ.next ?_
  refine TC.seq ?_
  refine TC.region ?_
  refine TL.val rfl rfl rfl (Y.move rfl rfl) ?_
  refine TL.val rfl rfl rfl (Y.move rfl rfl) ?_
  refine TL.val rfl rfl rfl (Y.nilCheck rfl rfl) ?_
  refine TL.val rfl rfl rfl (by first | exact Y.fieldAddrJ rfl fo68_11 rfl nqq | exact Y.fieldAddr rfl fo68_11 rfl nqq) ?_
  refine TL.val rfl rfl rfl (Y.load rfl sc2 rfl celN) ?_
  refine TL.as (vI S.clock) (by rfl) ?_
  refine TL.val rfl rfl rfl (Y.move rfl rfl) ?_
  refine TL.val rfl rfl rfl (Y.maxI rfl rfl rfl) ?_
  refine TL.as (vI (max S.clock now)) (by rfl) ?_
  refine TL.val rfl rfl rfl (Y.nilCheck rfl rfl) ?_
  refine TL.val rfl rfl rfl (by first | exact Y.fieldAddrJ rfl fo68_11 rfl nqq | exact Y.fieldAddr rfl fo68_11 rfl nqq) ?_
  refine TL.eff0 rfl rfl (X.store (cs' := asC p (S.clocked now)) rfl (by kernel_rfl) rfl rfl rfl pul (by show 11 < 17; decide) rfl) ?_
  rintro _ _ rfl
  refine TL.nil ?_
  refine TQ.next ?_
  refine TC.seq ?_
  refine TC.region ?_
  refine TL.val rfl rfl rfl (Y.move rfl rfl) ?_
  refine TL.eff rfl rfl rfl (X.call rfl Try.func26 (by kernel_rfl) rfl rfl (Fn.preE (by repeat first | (with_reducible apply Ent.refl) | (apply Ent.cons; case h => first | (with_reducible (repeat first | apply Pull.here | apply Pull.there); done) | (repeat first | apply Pull.here | apply Pull.there))) (rd.New_fn a n cap l hn hl _))) ?_
  rintro _ _ ⟨p28, rfl, rfl⟩
  refine TL.val rfl rfl rfl (Y.assign rfl rfl) ?_
  refine TL.nil ?_
  refine TQ.next ?_
  refine TC.seq ?_
  refine TC.region ?_
  refine TL.val rfl rfl rfl (Y.move rfl rfl) ?_
  refine TL.eff rfl rfl rfl (X.call rfl Try.func27 (by kernel_rfl) rfl rfl (Fn.preE (by repeat first | (with_reducible apply Ent.refl) | (apply Ent.cons; case h => first | (with_reducible (repeat first | apply Pull.here | apply Pull.there); done) | (repeat first | apply Pull.here | apply Pull.there))) (u32_ok p28 l (by omega) _))) ?_
  rintro _ _ ⟨rfl, rfl⟩
  rw [show num (l.take 4) = n32 l 0 from rfl]
  refine TL.val rfl rfl rfl (Y.move rfl rfl) ?_
  refine TL.eff rfl rfl rfl (X.call rfl Try.func27 (by kernel_rfl) rfl rfl (Fn.preE (by repeat first | (with_reducible apply Ent.refl) | (apply Ent.cons; case h => first | (with_reducible (repeat first | apply Pull.here | apply Pull.there); done) | (repeat first | apply Pull.here | apply Pull.there))) (u32_ok p28 (l.drop 4) (by rw [List.length_drop]; omega) _))) ?_
  rintro _ _ ⟨rfl, rfl⟩
  rw [show num ((l.drop 4).take 4) = n32 l 4 from rfl, List.drop_drop]
  refine TL.val rfl rfl rfl (Y.assign rfl rfl) ?_
  refine TL.val rfl rfl rfl (Y.assign rfl rfl) ?_
  refine TL.nil ?_
  refine TQ.next ?_
  refine TC.seq ?_
  refine TC.region ?_
  refine TL.val rfl rfl rfl (Y.move rfl rfl) ?_
  refine TL.val rfl rfl rfl (Y.bin rfl rfl rfl (br_shr32 (n := 24))) ?_
  refine TL.as (v32 kd) (by (rw [← hF.kind])) ?_
  refine TL.val rfl rfl rfl (Y.assign rfl rfl) ?_
  refine TL.nil ?_
  refine TQ.next ?_
  refine TC.seq ?_
  refine TC.seq ?_
  refine TC.region ?_
  refine TL.val rfl rfl rfl (Y.move rfl rfl) ?_
  refine TL.eff rfl rfl rfl (X.call rfl Try.func28 (by kernel_rfl) rfl rfl (Fn.preE (by repeat first | (with_reducible apply Ent.refl) | (apply Ent.cons; case h => first | (with_reducible (repeat first | apply Pull.here | apply Pull.there); done) | (repeat first | apply Pull.here | apply Pull.there))) (rd.Bad_fn _ _ _ _))) ?_
  rintro _ _ ⟨rfl, rfl⟩
  refine TL.val rfl rfl rfl (Y.move rfl rfl) ?_
  refine TL.valG rfl rfl rfl (Y.move rfl rfl) ?_
  refine TL.valG rfl rfl rfl (Y.bin rfl rfl rfl (br_and32 (y := 16777215))) ?_
  refine TL.valG rfl rfl rfl (Y.bin rfl rfl rfl (br_ne32 (y := 0))) ?_
  refine TL.is false (by (simpa using hF.low)) ?_
  refine TL.val rfl rfl rfl (Y.pick_f rfl rfl rfl) ?_
  refine TL.val rfl rfl rfl (Y.move rfl rfl) ?_
  refine TL.valG rfl rfl rfl (Y.move rfl rfl) ?_
  refine TL.valG rfl rfl rfl (Y.conv rfl Try.underlying22 Try.underlying5 rfl (cv_32_8)) ?_
  refine TL.valG rfl rfl rfl (Y.move rfl rfl) ?_
  refine TL.effG rfl rfl rfl (X.call rfl Try.func30 (by kernel_rfl) rfl rfl (Fn.preE (by repeat first | (with_reducible apply Ent.refl) | (apply Ent.cons; case h => first | (with_reducible (repeat first | apply Pull.here | apply Pull.there); done) | (repeat first | apply Pull.here | apply Pull.there))) (rd.Left_fn _ _ _ _))) ?_
  rintro _ _ ⟨rfl, rfl⟩
  refine TL.as (vN (l.length - 8)) (by (rw [List.length_drop])) ?_
  refine TL.effG rfl rfl rfl (X.call rfl Try.func29 (by kernel_rfl) rfl rfl (Fn.preE (by repeat first | (with_reducible apply Ent.refl) | (apply Ent.cons; case h => first | (with_reducible (repeat first | apply Pull.here | apply Pull.there); done) | (repeat first | apply Pull.here | apply Pull.there))) (fits_fn kd.toUInt8 (l.length - 8) (by omega) _))) ?_
  rintro _ _ ⟨rfl, rfl⟩
  refine TL.valG rfl rfl rfl (Y.not rfl rfl) ?_
  refine TL.is false (by (rw [hF.fits]; rfl)) ?_
  refine TL.val rfl rfl rfl (Y.pick_f rfl rfl rfl) ?_
  refine TL.val rfl rfl rfl (Y.move rfl rfl) ?_
  refine TL.valG rfl rfl rfl (Y.move rfl rfl) ?_
  refine TL.valG rfl rfl rfl (Y.bin rfl rfl rfl (br_eq32 (y := 0))) ?_
  refine TL.valG rfl rfl rfl (Y.move rfl rfl) ?_
  refine TL.valG rfl rfl rfl (Y.bin rfl rfl rfl (br_eq32 (y := 1))) ?_
  refine TL.valG rfl rfl rfl (Y.neBool rfl Try.underlying4 rfl rfl) ?_
  refine TL.is false (by (have := hF.tagged; by_cases e1 : n32 l 0 = 0 <;> by_cases e2 : kd = 1 <;> simp_all <;> rw [beq_eq_false_iff_ne.2 e1, beq_eq_false_iff_ne.2 e2])) ?_
  refine TL.val rfl rfl rfl (Y.pick_f rfl rfl rfl) ?_
  refine TL.nil ?_
  refine TQ.next ?_
  refine TC.cond_f rfl ?_
  refine TC.skip ?_
  refine TQ.next ?_
  refine TC.seq ?_
  refine TC.seq ?_
  refine TC.region ?_
  refine TL.val rfl rfl rfl (Y.move rfl rfl) ?_
  refine TL.val rfl rfl rfl (Y.bin rfl rfl rfl (br_leN (n := 2))) ?_
  refine TL.is true (by (subst hkd; decide)) ?_
  refine TL.val rfl rfl rfl (Y.move rfl rfl) ?_
  refine TL.valG rfl rfl rfl (Y.move rfl rfl) ?_
  refine TL.valG rfl rfl rfl (Y.sliceLo (k := 8) rfl Try.underlying23 sz5 rfl rfl (by omega)) ?_
  refine TL.effG rfl rfl rfl (X.call rfl Try.func26 (by kernel_rfl) rfl rfl (Fn.preE (by repeat first | (with_reducible apply Ent.refl) | (apply Ent.cons; case h => first | (with_reducible (repeat first | apply Pull.here | apply Pull.there); done) | (repeat first | apply Pull.here | apply Pull.there))) (rd.New_gen (SA.rds 1 (.slice a n cap) n (l.map v8)) _ (n - 8) (cap - 8) (l.drop 8) (Reads.tail8 Reads.rds (by omega)) (by rw [List.length_drop]; omega) (by omega) _))) ?_
  rintro _ _ ⟨p62, rfl, rfl⟩
  refine TL.effG rfl rfl rfl (X.call rfl Try.func27 (by kernel_rfl) rfl rfl (Fn.preE (by repeat first | (with_reducible apply Ent.refl) | (apply Ent.cons; case h => first | (with_reducible (repeat first | apply Pull.here | apply Pull.there); done) | (repeat first | apply Pull.here | apply Pull.there))) (u32_ok p62 (l.drop 8) (by rw [List.length_drop]; omega) _))) ?_
  rintro _ _ ⟨rfl, rfl⟩
  rw [show num ((l.drop 8).take 4) = n32 l 8 from rfl]
  refine TL.valG rfl rfl rfl (Y.bin rfl rfl rfl (br_eq32 (y := 0))) ?_
  refine TL.is false (by (simpa using h0)) ?_
  refine TL.val rfl rfl rfl (Y.pick_t rfl rfl rfl) ?_
  refine TL.nil ?_
  refine TQ.next ?_
  refine TC.cond_f rfl ?_
  refine TC.skip ?_
  refine TQ.next ?_
  refine TC.seq ?_
  refine TC.block ?_
  refine TC.seq ?_
  refine TC.region ?_
  refine TL.val rfl rfl rfl (Y.move rfl rfl) ?_
  refine TL.val rfl rfl rfl (Y.bin rfl rfl rfl (br_eq32 (y := 1))) ?_
  refine TL.is true (by (subst hkd; decide)) ?_
  refine TL.val rfl rfl rfl (Y.assign rfl rfl) ?_
  refine TL.nil ?_
  refine TQ.next ?_
  refine TC.cond_t rfl ?_
  refine TC.seq ?_
  refine TC.region ?_
  refine TL.val rfl rfl rfl (Y.move rfl rfl) ?_
  refine TL.val rfl rfl rfl (Y.move rfl rfl) ?_
  refine TL.eff rfl rfl rfl (X.call rfl Try.func31 (by kernel_rfl) rfl rfl (Fn.preE (by repeat first | (with_reducible apply Ent.refl) | (apply Ent.cons; case h => first | (with_reducible (repeat first | apply Pull.here | apply Pull.there); done) | (repeat first | apply Pull.here | apply Pull.there))) (initial_no b p (S.clocked now) p28 (l.drop 8) (by rw [List.length_drop]; omega) hs0 hs3 _))) ?_
  rintro _ _ ⟨rfl, rfl⟩
  refine TL.val rfl rfl rfl (Y.extract rfl rfl rfl) ?_
  refine TL.val rfl rfl rfl (Y.extract rfl rfl rfl) ?_
  refine TL.val rfl rfl rfl (Y.extract rfl rfl rfl) ?_
  refine TL.val rfl rfl rfl (Y.assign rfl rfl) ?_
  refine TL.val rfl rfl rfl (Y.assign rfl rfl) ?_
  refine TL.val rfl rfl rfl (Y.assign rfl rfl) ?_
  refine TL.nil ?_
  refine TQ.next ?_
  refine TC.ret ?_
  refine TQ.block_ret ?_
  refine TQ.then_ret ?_
  refine TQ.retE (resL rfl (Res.tmp rfl (Res.tmp rfl (Res.tmp rfl Res.nil)))) (⟨rfl, rfl⟩) ?_
  exact ett

theorem H_init_yes (kd : UInt32) (hF : Formed l kd) (hkd : kd = 1) (h0 : n32 l 8 ≠ 0) (hs : S.state = 0 ∨ S.state = 3) (hsec : S.secret.length ≤ 140737488351232) (L : List SA) : Fn Try.prog 12 [pt b 0, .slice a n cap, vI now] (aB b p S :: SA.rds 1 (.slice a n cap) n (l.map v8) :: aS p (S.clocked now) :: L) (fun v L' => ∃ o : Sl Bs, v = .tuple #[o.v, .slice none 0 0, vN 0] ∧ o.l.map (·.l) = [(S.clocked now).initAckB (n32 l 8) (n32 l 12)] ∧ L' = SA.dat o :: aB b p (S.clocked now) :: aS p (S.clocked now) :: SA.rds 1 (.slice a n cap) n (l.map v8) :: L) := by
  have hlen := hF.len
  have hl1 : l.length = 16 := by have := hF.fits; subst hkd; simp [fitsB] at this; omega
  refine Fn.of (N := 160) Try.func12 rfl rfl ?_
  intro Xh
  refine TC.seq ?_
  refine TC.region ?_
  refine TL.val rfl rfl rfl (Y.assign rfl rfl) ?_
  refine TL.val rfl rfl rfl (Y.assign rfl rfl) ?_
  refine TL.val rfl rfl rfl (Y.assign rfl rfl) ?_
  refine TL.nil ?_
  refine TQ.next ?_
  refine TC.seq ?_
  refine TC.seq ?_
  refine TC.region ?_
  refine TL.val rfl rfl rfl (Y.move rfl rfl) ?_
  refine TL.val rfl rfl rfl (by first | exact Y.eqNilP rfl Try.underlying26 rfl rfl | exact Y.eqNil0 rfl Try.underlying26 rfl rfl) ?_
  refine TL.nil ?_
  refine TQ.next ?_
  refine TC.cond_f rfl ?_
  refine TC.skip ?_
  refine TQ.next ?_
  refine TC.seq ?_
  refine TC.region ?_
  refine TL.val rfl rfl rfl (Y.move rfl rfl) ?_
  refine TL.val rfl rfl rfl (Y.move rfl rfl) ?_
  refine TL.val rfl rfl rfl (Y.nilCheck rfl rfl) ?_
  refine TL.val rfl rfl rfl (by first | exact Y.fieldAddrJ rfl fo68_11 rfl nqq | exact Y.fieldAddr rfl fo68_11 rfl nqq) ?_
  refine TL.val rfl rfl rfl (Y.load rfl sc2 rfl celN) ?_
  refine TL.as (vI S.clock) (by rfl) ?_
  refine TL.val rfl rfl rfl (Y.move rfl rfl) ?_
  refine TL.val rfl rfl rfl (Y.maxI rfl rfl rfl) ?_
  refine TL.as (vI (max S.clock now)) (by rfl) ?_
  refine TL.val rfl rfl rfl (Y.nilCheck rfl rfl) ?_
  refine TL.val rfl rfl rfl (by first | exact Y.fieldAddrJ rfl fo68_11 rfl nqq | exact Y.fieldAddr rfl fo68_11 rfl nqq) ?_
  refine TL.eff0 rfl rfl (X.store (cs' := asC p (S.clocked now)) rfl (by kernel_rfl) rfl rfl rfl pul (by show 11 < 17; decide) rfl) ?_
  rintro _ _ rfl
  refine TL.nil ?_
  refine TQ.next ?_
  refine TC.seq ?_
  refine TC.region ?_
  refine TL.val rfl rfl rfl (Y.move rfl rfl) ?_
  refine TL.eff rfl rfl rfl (X.call rfl Try.func26 (by kernel_rfl) rfl rfl (Fn.preE (by repeat first | (with_reducible apply Ent.refl) | (apply Ent.cons; case h => first | (with_reducible (repeat first | apply Pull.here | apply Pull.there); done) | (repeat first | apply Pull.here | apply Pull.there))) (rd.New_fn a n cap l hn hl _))) ?_
  rintro _ _ ⟨p28, rfl, rfl⟩
  refine TL.val rfl rfl rfl (Y.assign rfl rfl) ?_
  refine TL.nil ?_
  refine TQ.next ?_
  refine TC.seq ?_
  refine TC.region ?_
  refine TL.val rfl rfl rfl (Y.move rfl rfl) ?_
  refine TL.eff rfl rfl rfl (X.call rfl Try.func27 (by kernel_rfl) rfl rfl (Fn.preE (by repeat first | (with_reducible apply Ent.refl) | (apply Ent.cons; case h => first | (with_reducible (repeat first | apply Pull.here | apply Pull.there); done) | (repeat first | apply Pull.here | apply Pull.there))) (u32_ok p28 l (by omega) _))) ?_
  rintro _ _ ⟨rfl, rfl⟩
  rw [show num (l.take 4) = n32 l 0 from rfl]
  refine TL.val rfl rfl rfl (Y.move rfl rfl) ?_
  refine TL.eff rfl rfl rfl (X.call rfl Try.func27 (by kernel_rfl) rfl rfl (Fn.preE (by repeat first | (with_reducible apply Ent.refl) | (apply Ent.cons; case h => first | (with_reducible (repeat first | apply Pull.here | apply Pull.there); done) | (repeat first | apply Pull.here | apply Pull.there))) (u32_ok p28 (l.drop 4) (by rw [List.length_drop]; omega) _))) ?_
  rintro _ _ ⟨rfl, rfl⟩
  rw [show num ((l.drop 4).take 4) = n32 l 4 from rfl, List.drop_drop]
  refine TL.val rfl rfl rfl (Y.assign rfl rfl) ?_
  refine TL.val rfl rfl rfl (Y.assign rfl rfl) ?_
  refine TL.nil ?_
  refine TQ.next ?_
  refine TC.seq ?_
  refine TC.region ?_
  refine TL.val rfl rfl rfl (Y.move rfl rfl) ?_
  refine TL.val rfl rfl rfl (Y.bin rfl rfl rfl (br_shr32 (n := 24))) ?_
  refine TL.as (v32 kd) (by (rw [← hF.kind])) ?_
  refine TL.val rfl rfl rfl (Y.assign rfl rfl) ?_
  refine TL.nil ?_
  refine TQ.next ?_
  refine TC.seq ?_
  refine TC.seq ?_
  refine TC.region ?_
  refine TL.val rfl rfl rfl (Y.move rfl rfl) ?_
  refine TL.eff rfl rfl rfl (X.call rfl Try.func28 (by kernel_rfl) rfl rfl (Fn.preE (by repeat first | (with_reducible apply Ent.refl) | (apply Ent.cons; case h => first | (with_reducible (repeat first | apply Pull.here | apply Pull.there); done) | (repeat first | apply Pull.here | apply Pull.there))) (rd.Bad_fn _ _ _ _))) ?_
  rintro _ _ ⟨rfl, rfl⟩
  refine TL.val rfl rfl rfl (Y.move rfl rfl) ?_
  refine TL.valG rfl rfl rfl (Y.move rfl rfl) ?_
  refine TL.valG rfl rfl rfl (Y.bin rfl rfl rfl (br_and32 (y := 16777215))) ?_
  refine TL.valG rfl rfl rfl (Y.bin rfl rfl rfl (br_ne32 (y := 0))) ?_
  refine TL.is false (by (simpa using hF.low)) ?_
  refine TL.val rfl rfl rfl (Y.pick_f rfl rfl rfl) ?_
  refine TL.val rfl rfl rfl (Y.move rfl rfl) ?_
  refine TL.valG rfl rfl rfl (Y.move rfl rfl) ?_
  refine TL.valG rfl rfl rfl (Y.conv rfl Try.underlying22 Try.underlying5 rfl (cv_32_8)) ?_
  refine TL.valG rfl rfl rfl (Y.move rfl rfl) ?_
  refine TL.effG rfl rfl rfl (X.call rfl Try.func30 (by kernel_rfl) rfl rfl (Fn.preE (by repeat first | (with_reducible apply Ent.refl) | (apply Ent.cons; case h => first | (with_reducible (repeat first | apply Pull.here | apply Pull.there); done) | (repeat first | apply Pull.here | apply Pull.there))) (rd.Left_fn _ _ _ _))) ?_
  rintro _ _ ⟨rfl, rfl⟩
  refine TL.as (vN (l.length - 8)) (by (rw [List.length_drop])) ?_
  refine TL.effG rfl rfl rfl (X.call rfl Try.func29 (by kernel_rfl) rfl rfl (Fn.preE (by repeat first | (with_reducible apply Ent.refl) | (apply Ent.cons; case h => first | (with_reducible (repeat first | apply Pull.here | apply Pull.there); done) | (repeat first | apply Pull.here | apply Pull.there))) (fits_fn kd.toUInt8 (l.length - 8) (by omega) _))) ?_
  rintro _ _ ⟨rfl, rfl⟩
  refine TL.valG rfl rfl rfl (Y.not rfl rfl) ?_
  refine TL.is false (by (rw [hF.fits]; rfl)) ?_
  refine TL.val rfl rfl rfl (Y.pick_f rfl rfl rfl) ?_
  refine TL.val rfl rfl rfl (Y.move rfl rfl) ?_
  refine TL.valG rfl rfl rfl (Y.move rfl rfl) ?_
  refine TL.valG rfl rfl rfl (Y.bin rfl rfl rfl (br_eq32 (y := 0))) ?_
  refine TL.valG rfl rfl rfl (Y.move rfl rfl) ?_
  refine TL.valG rfl rfl rfl (Y.bin rfl rfl rfl (br_eq32 (y := 1))) ?_
  refine TL.valG rfl rfl rfl (Y.neBool rfl Try.underlying4 rfl rfl) ?_
  refine TL.is false (by (have := hF.tagged; by_cases e1 : n32 l 0 = 0 <;> by_cases e2 : kd = 1 <;> simp_all <;> rw [beq_eq_false_iff_ne.2 e1, beq_eq_false_iff_ne.2 e2])) ?_
  refine TL.val rfl rfl rfl (Y.pick_f rfl rfl rfl) ?_
  refine TL.nil ?_
  refine TQ.next ?_
  refine TC.cond_f rfl ?_
  refine TC.skip ?_
  refine TQ.next ?_
  refine TC.seq ?_
  refine TC.seq ?_
  refine TC.region ?_
  refine TL.val rfl rfl rfl (Y.move rfl rfl) ?_
  refine TL.val rfl rfl rfl (Y.bin rfl rfl rfl (br_leN (n := 2))) ?_
  refine TL.is true (by (subst hkd; decide)) ?_
  refine TL.val rfl rfl rfl (Y.move rfl rfl) ?_
  refine TL.valG rfl rfl rfl (Y.move rfl rfl) ?_
  refine TL.valG rfl rfl rfl (Y.sliceLo (k := 8) rfl Try.underlying23 sz5 rfl rfl (by omega)) ?_
  refine TL.effG rfl rfl rfl (X.call rfl Try.func26 (by kernel_rfl) rfl rfl (Fn.preE (by repeat first | (with_reducible apply Ent.refl) | (apply Ent.cons; case h => first | (with_reducible (repeat first | apply Pull.here | apply Pull.there); done) | (repeat first | apply Pull.here | apply Pull.there))) (rd.New_gen (SA.rds 1 (.slice a n cap) n (l.map v8)) _ (n - 8) (cap - 8) (l.drop 8) (Reads.tail8 Reads.rds (by omega)) (by rw [List.length_drop]; omega) (by omega) _))) ?_
  rintro _ _ ⟨p62, rfl, rfl⟩
  refine TL.effG rfl rfl rfl (X.call rfl Try.func27 (by kernel_rfl) rfl rfl (Fn.preE (by repeat first | (with_reducible apply Ent.refl) | (apply Ent.cons; case h => first | (with_reducible (repeat first | apply Pull.here | apply Pull.there); done) | (repeat first | apply Pull.here | apply Pull.there))) (u32_ok p62 (l.drop 8) (by rw [List.length_drop]; omega) _))) ?_
  rintro _ _ ⟨rfl, rfl⟩
  rw [show num ((l.drop 8).take 4) = n32 l 8 from rfl]
  refine TL.valG rfl rfl rfl (Y.bin rfl rfl rfl (br_eq32 (y := 0))) ?_
  refine TL.is false (by (simpa using h0)) ?_
  refine TL.val rfl rfl rfl (Y.pick_t rfl rfl rfl) ?_
  refine TL.nil ?_
  refine TQ.next ?_
  refine TC.cond_f rfl ?_
  refine TC.skip ?_
  refine TQ.next ?_
  refine TC.seq ?_
  refine TC.block ?_
  refine TC.seq ?_
  refine TC.region ?_
  refine TL.val rfl rfl rfl (Y.move rfl rfl) ?_
  refine TL.val rfl rfl rfl (Y.bin rfl rfl rfl (br_eq32 (y := 1))) ?_
  refine TL.is true (by (subst hkd; decide)) ?_
  refine TL.val rfl rfl rfl (Y.assign rfl rfl) ?_
  refine TL.nil ?_
  refine TQ.next ?_
  refine TC.cond_t rfl ?_
  refine TC.seq ?_
  refine TC.region ?_
  refine TL.val rfl rfl rfl (Y.move rfl rfl) ?_
  refine TL.val rfl rfl rfl (Y.move rfl rfl) ?_
  refine TL.eff rfl rfl rfl (X.call rfl Try.func31 (by kernel_rfl) rfl rfl (Fn.preE (by repeat first | (with_reducible apply Ent.refl) | (apply Ent.cons; case h => first | (with_reducible (repeat first | apply Pull.here | apply Pull.there); done) | (repeat first | apply Pull.here | apply Pull.there))) (initial_yes b p (S.clocked now) p28 (l.drop 8) (by rw [List.length_drop]; omega) hs hsec _))) ?_
  rintro _ _ ⟨o, rfl, ho, rfl⟩
  refine TL.val rfl rfl rfl (Y.extract rfl rfl rfl) ?_
  refine TL.val rfl rfl rfl (Y.extract rfl rfl rfl) ?_
  refine TL.val rfl rfl rfl (Y.extract rfl rfl rfl) ?_
  refine TL.val rfl rfl rfl (Y.assign rfl rfl) ?_
  refine TL.val rfl rfl rfl (Y.assign rfl rfl) ?_
  refine TL.val rfl rfl rfl (Y.assign rfl rfl) ?_
  refine TL.nil ?_
  refine TQ.next ?_
  refine TC.ret ?_
  refine TQ.block_ret ?_
  refine TQ.then_ret ?_
  refine TQ.retE (resL rfl (Res.tmp rfl (Res.tmp rfl (Res.tmp rfl Res.nil)))) (⟨o, rfl, by rw [ho, List.drop_drop]; rfl, rfl⟩) ?_
  exact ett

theorem H_auth2 (kd : UInt32) (hF : Formed l kd) (hkd : kd = 2) (h0 : n32 l 8 ≠ 0) (ht : n32 l 0 ≠ S.tag) (L : List SA) : Fn Try.prog 12 [pt b 0, .slice a n cap, vI now] (aB b p S :: SA.rds 1 (.slice a n cap) n (l.map v8) :: L) (fun v L' => v = noOut 4 ∧ L' = aB b p (S.clocked now) :: SA.rds 1 (.slice a n cap) n (l.map v8) :: L) := by
  have hlen := hF.len
  have hl1 : l.length = 52 := by have := hF.fits; subst hkd; simp [fitsB] at this; omega
  refine Fn.of (N := 160) Try.func12 rfl rfl ?_
  intro Xh
  refine TC.seq ?_
  refine TC.region ?_
  refine TL.val rfl rfl rfl (Y.assign rfl rfl) ?_
  refine TL.val rfl rfl rfl (Y.assign rfl rfl) ?_
  refine TL.val rfl rfl rfl (Y.assign rfl rfl) ?_
  refine TL.nil ?_
  refine TQ.next ?_
  refine TC.seq ?_
  refine TC.seq ?_
  refine TC.region ?_
  refine TL.val rfl rfl rfl (Y.move rfl rfl) ?_
  refine TL.val rfl rfl rfl (by first | exact Y.eqNilP rfl Try.underlying26 rfl rfl | exact Y.eqNil0 rfl Try.underlying26 rfl rfl) ?_
  refine TL.nil ?_
  refine TQ.next ?_
  refine TC.cond_f rfl ?_
  refine TC.skip ?_
  refine TQ.next ?_
  refine TC.seq ?_
  refine TC.region ?_
  refine TL.val rfl rfl rfl (Y.move rfl rfl) ?_
  refine TL.val rfl rfl rfl (Y.move rfl rfl) ?_
  refine TL.val rfl rfl rfl (Y.nilCheck rfl rfl) ?_
  refine TL.val rfl rfl rfl (by first | exact Y.fieldAddrJ rfl fo68_11 rfl nqq | exact Y.fieldAddr rfl fo68_11 rfl nqq) ?_
  refine TL.val rfl rfl rfl (Y.load rfl sc2 rfl celN) ?_
  refine TL.as (vI S.clock) (by rfl) ?_
  refine TL.val rfl rfl rfl (Y.move rfl rfl) ?_
  refine TL.val rfl rfl rfl (Y.maxI rfl rfl rfl) ?_
  refine TL.as (vI (max S.clock now)) (by rfl) ?_
  refine TL.val rfl rfl rfl (Y.nilCheck rfl rfl) ?_
  refine TL.val rfl rfl rfl (by first | exact Y.fieldAddrJ rfl fo68_11 rfl nqq | exact Y.fieldAddr rfl fo68_11 rfl nqq) ?_
  refine TL.eff0 rfl rfl (X.store (cs' := asC p (S.clocked now)) rfl (by kernel_rfl) rfl rfl rfl pul (by show 11 < 17; decide) rfl) ?_
  rintro _ _ rfl
  refine TL.nil ?_
  refine TQ.next ?_
  refine TC.seq ?_
  refine TC.region ?_
  refine TL.val rfl rfl rfl (Y.move rfl rfl) ?_
  refine TL.eff rfl rfl rfl (X.call rfl Try.func26 (by kernel_rfl) rfl rfl (Fn.preE (by repeat first | (with_reducible apply Ent.refl) | (apply Ent.cons; case h => first | (with_reducible (repeat first | apply Pull.here | apply Pull.there); done) | (repeat first | apply Pull.here | apply Pull.there))) (rd.New_fn a n cap l hn hl _))) ?_
  rintro _ _ ⟨p28, rfl, rfl⟩
  refine TL.val rfl rfl rfl (Y.assign rfl rfl) ?_
  refine TL.nil ?_
  refine TQ.next ?_
  refine TC.seq ?_
  refine TC.region ?_
  refine TL.val rfl rfl rfl (Y.move rfl rfl) ?_
  refine TL.eff rfl rfl rfl (X.call rfl Try.func27 (by kernel_rfl) rfl rfl (Fn.preE (by repeat first | (with_reducible apply Ent.refl) | (apply Ent.cons; case h => first | (with_reducible (repeat first | apply Pull.here | apply Pull.there); done) | (repeat first | apply Pull.here | apply Pull.there))) (u32_ok p28 l (by omega) _))) ?_
  rintro _ _ ⟨rfl, rfl⟩
  rw [show num (l.take 4) = n32 l 0 from rfl]
  refine TL.val rfl rfl rfl (Y.move rfl rfl) ?_
  refine TL.eff rfl rfl rfl (X.call rfl Try.func27 (by kernel_rfl) rfl rfl (Fn.preE (by repeat first | (with_reducible apply Ent.refl) | (apply Ent.cons; case h => first | (with_reducible (repeat first | apply Pull.here | apply Pull.there); done) | (repeat first | apply Pull.here | apply Pull.there))) (u32_ok p28 (l.drop 4) (by rw [List.length_drop]; omega) _))) ?_
  rintro _ _ ⟨rfl, rfl⟩
  rw [show num ((l.drop 4).take 4) = n32 l 4 from rfl, List.drop_drop]
  refine TL.val rfl rfl rfl (Y.assign rfl rfl) ?_
  refine TL.val rfl rfl rfl (Y.assign rfl rfl) ?_
  refine TL.nil ?_
  refine TQ.next ?_
  refine TC.seq ?_
  refine TC.region ?_
  refine TL.val rfl rfl rfl (Y.move rfl rfl) ?_
  refine TL.val rfl rfl rfl (Y.bin rfl rfl rfl (br_shr32 (n := 24))) ?_
  refine TL.as (v32 kd) (by (rw [← hF.kind])) ?_
  refine TL.val rfl rfl rfl (Y.assign rfl rfl) ?_
  refine TL.nil ?_
  refine TQ.next ?_
  refine TC.seq ?_
  refine TC.seq ?_
  refine TC.region ?_
  refine TL.val rfl rfl rfl (Y.move rfl rfl) ?_
  refine TL.eff rfl rfl rfl (X.call rfl Try.func28 (by kernel_rfl) rfl rfl (Fn.preE (by repeat first | (with_reducible apply Ent.refl) | (apply Ent.cons; case h => first | (with_reducible (repeat first | apply Pull.here | apply Pull.there); done) | (repeat first | apply Pull.here | apply Pull.there))) (rd.Bad_fn _ _ _ _))) ?_
  rintro _ _ ⟨rfl, rfl⟩
  refine TL.val rfl rfl rfl (Y.move rfl rfl) ?_
  refine TL.valG rfl rfl rfl (Y.move rfl rfl) ?_
  refine TL.valG rfl rfl rfl (Y.bin rfl rfl rfl (br_and32 (y := 16777215))) ?_
  refine TL.valG rfl rfl rfl (Y.bin rfl rfl rfl (br_ne32 (y := 0))) ?_
  refine TL.is false (by (simpa using hF.low)) ?_
  refine TL.val rfl rfl rfl (Y.pick_f rfl rfl rfl) ?_
  refine TL.val rfl rfl rfl (Y.move rfl rfl) ?_
  refine TL.valG rfl rfl rfl (Y.move rfl rfl) ?_
  refine TL.valG rfl rfl rfl (Y.conv rfl Try.underlying22 Try.underlying5 rfl (cv_32_8)) ?_
  refine TL.valG rfl rfl rfl (Y.move rfl rfl) ?_
  refine TL.effG rfl rfl rfl (X.call rfl Try.func30 (by kernel_rfl) rfl rfl (Fn.preE (by repeat first | (with_reducible apply Ent.refl) | (apply Ent.cons; case h => first | (with_reducible (repeat first | apply Pull.here | apply Pull.there); done) | (repeat first | apply Pull.here | apply Pull.there))) (rd.Left_fn _ _ _ _))) ?_
  rintro _ _ ⟨rfl, rfl⟩
  refine TL.as (vN (l.length - 8)) (by (rw [List.length_drop])) ?_
  refine TL.effG rfl rfl rfl (X.call rfl Try.func29 (by kernel_rfl) rfl rfl (Fn.preE (by repeat first | (with_reducible apply Ent.refl) | (apply Ent.cons; case h => first | (with_reducible (repeat first | apply Pull.here | apply Pull.there); done) | (repeat first | apply Pull.here | apply Pull.there))) (fits_fn kd.toUInt8 (l.length - 8) (by omega) _))) ?_
  rintro _ _ ⟨rfl, rfl⟩
  refine TL.valG rfl rfl rfl (Y.not rfl rfl) ?_
  refine TL.is false (by (rw [hF.fits]; rfl)) ?_
  refine TL.val rfl rfl rfl (Y.pick_f rfl rfl rfl) ?_
  refine TL.val rfl rfl rfl (Y.move rfl rfl) ?_
  refine TL.valG rfl rfl rfl (Y.move rfl rfl) ?_
  refine TL.valG rfl rfl rfl (Y.bin rfl rfl rfl (br_eq32 (y := 0))) ?_
  refine TL.valG rfl rfl rfl (Y.move rfl rfl) ?_
  refine TL.valG rfl rfl rfl (Y.bin rfl rfl rfl (br_eq32 (y := 1))) ?_
  refine TL.valG rfl rfl rfl (Y.neBool rfl Try.underlying4 rfl rfl) ?_
  refine TL.is false (by (have := hF.tagged; by_cases e1 : n32 l 0 = 0 <;> by_cases e2 : kd = 1 <;> simp_all <;> rw [beq_eq_false_iff_ne.2 e1, beq_eq_false_iff_ne.2 e2])) ?_
  refine TL.val rfl rfl rfl (Y.pick_f rfl rfl rfl) ?_
  refine TL.nil ?_
  refine TQ.next ?_
  refine TC.cond_f rfl ?_
  refine TC.skip ?_
  refine TQ.next ?_
  refine TC.seq ?_
  refine TC.seq ?_
  refine TC.region ?_
  refine TL.val rfl rfl rfl (Y.move rfl rfl) ?_
  refine TL.val rfl rfl rfl (Y.bin rfl rfl rfl (br_leN (n := 2))) ?_
  refine TL.is true (by (subst hkd; decide)) ?_
  refine TL.val rfl rfl rfl (Y.move rfl rfl) ?_
  refine TL.valG rfl rfl rfl (Y.move rfl rfl) ?_
  refine TL.valG rfl rfl rfl (Y.sliceLo (k := 8) rfl Try.underlying23 sz5 rfl rfl (by omega)) ?_
  refine TL.effG rfl rfl rfl (X.call rfl Try.func26 (by kernel_rfl) rfl rfl (Fn.preE (by repeat first | (with_reducible apply Ent.refl) | (apply Ent.cons; case h => first | (with_reducible (repeat first | apply Pull.here | apply Pull.there); done) | (repeat first | apply Pull.here | apply Pull.there))) (rd.New_gen (SA.rds 1 (.slice a n cap) n (l.map v8)) _ (n - 8) (cap - 8) (l.drop 8) (Reads.tail8 Reads.rds (by omega)) (by rw [List.length_drop]; omega) (by omega) _))) ?_
  rintro _ _ ⟨p62, rfl, rfl⟩
  refine TL.effG rfl rfl rfl (X.call rfl Try.func27 (by kernel_rfl) rfl rfl (Fn.preE (by repeat first | (with_reducible apply Ent.refl) | (apply Ent.cons; case h => first | (with_reducible (repeat first | apply Pull.here | apply Pull.there); done) | (repeat first | apply Pull.here | apply Pull.there))) (u32_ok p62 (l.drop 8) (by rw [List.length_drop]; omega) _))) ?_
  rintro _ _ ⟨rfl, rfl⟩
  rw [show num ((l.drop 8).take 4) = n32 l 8 from rfl]
  refine TL.valG rfl rfl rfl (Y.bin rfl rfl rfl (br_eq32 (y := 0))) ?_
  refine TL.is false (by (simpa using h0)) ?_
  refine TL.val rfl rfl rfl (Y.pick_t rfl rfl rfl) ?_
  refine TL.nil ?_
  refine TQ.next ?_
  refine TC.cond_f rfl ?_
  refine TC.skip ?_
  refine TQ.next ?_
  refine TC.seq ?_
  refine TC.block ?_
  refine TC.seq ?_
  refine TC.region ?_
  refine TL.val rfl rfl rfl (Y.move rfl rfl) ?_
  refine TL.val rfl rfl rfl (Y.bin rfl rfl rfl (br_eq32 (y := 1))) ?_
  refine TL.is false (by (subst hkd; decide)) ?_
  refine TL.val rfl rfl rfl (Y.assign rfl rfl) ?_
  refine TL.nil ?_
  refine TQ.next ?_
  refine TC.cond_f rfl ?_
  refine TC.seq ?_
  refine TC.region ?_
  refine TL.val rfl rfl rfl (Y.move rfl rfl) ?_
  refine TL.val rfl rfl rfl (Y.move rfl rfl) ?_
  refine TL.val rfl rfl rfl (Y.nilCheck rfl rfl) ?_
  refine TL.val rfl rfl rfl (by first | exact Y.fieldAddrJ rfl fo68_0 rfl nqq | exact Y.fieldAddr rfl fo68_0 rfl nqq) ?_
  refine TL.val rfl rfl rfl (Y.load rfl sc22 rfl cel32) ?_
  refine TL.as (v32 S.tag) (by rfl) ?_
  refine TL.val rfl rfl rfl (Y.bin rfl rfl rfl (br_ne32)) ?_
  refine TL.is true (by (simpa using ht)) ?_
  refine TL.val rfl rfl rfl (Y.assign rfl rfl) ?_
  refine TL.nil ?_
  refine TQ.next ?_
  refine TC.cond_t rfl ?_
  refine TC.seq ?_
  refine TC.region ?_
  refine TL.val rfl rfl rfl (Y.assign rfl rfl) ?_
  refine TL.val rfl rfl rfl (Y.assign rfl rfl) ?_
  refine TL.val rfl rfl rfl (Y.assign rfl rfl) ?_
  refine TL.nil ?_
  refine TQ.next ?_
  refine TC.ret ?_
  refine TQ.block_ret ?_
  refine TQ.then_ret ?_
  refine TQ.retE (resL rfl (Res.tmp rfl (Res.tmp rfl (Res.tmp rfl Res.nil)))) (⟨rfl, rfl⟩) ?_
  exact ett

theorem H_auth (kd : UInt32) (hF : Formed l kd) (hk2 : ¬ kd ≤ 2) (ht : n32 l 0 ≠ S.tag) (L : List SA) : Fn Try.prog 12 [pt b 0, .slice a n cap, vI now] (aB b p S :: SA.rds 1 (.slice a n cap) n (l.map v8) :: L) (fun v L' => v = noOut 4 ∧ L' = aB b p (S.clocked now) :: SA.rds 1 (.slice a n cap) n (l.map v8) :: L) := by
  have hlen := hF.len
  refine Fn.of (N := 160) Try.func12 rfl rfl ?_
  intro Xh
  refine TC.seq ?_
  refine TC.region ?_
  refine TL.val rfl rfl rfl (Y.assign rfl rfl) ?_
  refine TL.val rfl rfl rfl (Y.assign rfl rfl) ?_
  refine TL.val rfl rfl rfl (Y.assign rfl rfl) ?_
  refine TL.nil ?_
  refine TQ.next ?_
  refine TC.seq ?_
  refine TC.seq ?_
  refine TC.region ?_
  refine TL.val rfl rfl rfl (Y.move rfl rfl) ?_
  refine TL.val rfl rfl rfl (by first | exact Y.eqNilP rfl Try.underlying26 rfl rfl | exact Y.eqNil0 rfl Try.underlying26 rfl rfl) ?_
  refine TL.nil ?_
  refine TQ.next ?_
  refine TC.cond_f rfl ?_
  refine TC.skip ?_
  refine TQ.next ?_
  refine TC.seq ?_
  refine TC.region ?_
  refine TL.val rfl rfl rfl (Y.move rfl rfl) ?_
  refine TL.val rfl rfl rfl (Y.move rfl rfl) ?_
  refine TL.val rfl rfl rfl (Y.nilCheck rfl rfl) ?_
  refine TL.val rfl rfl rfl (by first | exact Y.fieldAddrJ rfl fo68_11 rfl nqq | exact Y.fieldAddr rfl fo68_11 rfl nqq) ?_
  refine TL.val rfl rfl rfl (Y.load rfl sc2 rfl celN) ?_
  refine TL.as (vI S.clock) (by rfl) ?_
  refine TL.val rfl rfl rfl (Y.move rfl rfl) ?_
  refine TL.val rfl rfl rfl (Y.maxI rfl rfl rfl) ?_
  refine TL.as (vI (max S.clock now)) (by rfl) ?_
  refine TL.val rfl rfl rfl (Y.nilCheck rfl rfl) ?_
  refine TL.val rfl rfl rfl (by first | exact Y.fieldAddrJ rfl fo68_11 rfl nqq | exact Y.fieldAddr rfl fo68_11 rfl nqq) ?_
  refine TL.eff0 rfl rfl (X.store (cs' := asC p (S.clocked now)) rfl (by kernel_rfl) rfl rfl rfl pul (by show 11 < 17; decide) rfl) ?_
  rintro _ _ rfl
  refine TL.nil ?_
  refine TQ.next ?_
  refine TC.seq ?_
  refine TC.region ?_
  refine TL.val rfl rfl rfl (Y.move rfl rfl) ?_
  refine TL.eff rfl rfl rfl (X.call rfl Try.func26 (by kernel_rfl) rfl rfl (Fn.preE (by repeat first | (with_reducible apply Ent.refl) | (apply Ent.cons; case h => first | (with_reducible (repeat first | apply Pull.here | apply Pull.there); done) | (repeat first | apply Pull.here | apply Pull.there))) (rd.New_fn a n cap l hn hl _))) ?_
  rintro _ _ ⟨p28, rfl, rfl⟩
  refine TL.val rfl rfl rfl (Y.assign rfl rfl) ?_
  refine TL.nil ?_
  refine TQ.next ?_
  refine TC.seq ?_
  refine TC.region ?_
  refine TL.val rfl rfl rfl (Y.move rfl rfl) ?_
  refine TL.eff rfl rfl rfl (X.call rfl Try.func27 (by kernel_rfl) rfl rfl (Fn.preE (by repeat first | (with_reducible apply Ent.refl) | (apply Ent.cons; case h => first | (with_reducible (repeat first | apply Pull.here | apply Pull.there); done) | (repeat first | apply Pull.here | apply Pull.there))) (u32_ok p28 l (by omega) _))) ?_
  rintro _ _ ⟨rfl, rfl⟩
  rw [show num (l.take 4) = n32 l 0 from rfl]
  refine TL.val rfl rfl rfl (Y.move rfl rfl) ?_
  refine TL.eff rfl rfl rfl (X.call rfl Try.func27 (by kernel_rfl) rfl rfl (Fn.preE (by repeat first | (with_reducible apply Ent.refl) | (apply Ent.cons; case h => first | (with_reducible (repeat first | apply Pull.here | apply Pull.there); done) | (repeat first | apply Pull.here | apply Pull.there))) (u32_ok p28 (l.drop 4) (by rw [List.length_drop]; omega) _))) ?_
  rintro _ _ ⟨rfl, rfl⟩
  rw [show num ((l.drop 4).take 4) = n32 l 4 from rfl, List.drop_drop]
  refine TL.val rfl rfl rfl (Y.assign rfl rfl) ?_
  refine TL.val rfl rfl rfl (Y.assign rfl rfl) ?_
  refine TL.nil ?_
  refine TQ.next ?_
  refine TC.seq ?_
  refine TC.region ?_
  refine TL.val rfl rfl rfl (Y.move rfl rfl) ?_
  refine TL.val rfl rfl rfl (Y.bin rfl rfl rfl (br_shr32 (n := 24))) ?_
  refine TL.as (v32 kd) (by (rw [← hF.kind])) ?_
  refine TL.val rfl rfl rfl (Y.assign rfl rfl) ?_
  refine TL.nil ?_
  refine TQ.next ?_
  refine TC.seq ?_
  refine TC.seq ?_
  refine TC.region ?_
  refine TL.val rfl rfl rfl (Y.move rfl rfl) ?_
  refine TL.eff rfl rfl rfl (X.call rfl Try.func28 (by kernel_rfl) rfl rfl (Fn.preE (by repeat first | (with_reducible apply Ent.refl) | (apply Ent.cons; case h => first | (with_reducible (repeat first | apply Pull.here | apply Pull.there); done) | (repeat first | apply Pull.here | apply Pull.there))) (rd.Bad_fn _ _ _ _))) ?_
  rintro _ _ ⟨rfl, rfl⟩
  refine TL.val rfl rfl rfl (Y.move rfl rfl) ?_
  refine TL.valG rfl rfl rfl (Y.move rfl rfl) ?_
  refine TL.valG rfl rfl rfl (Y.bin rfl rfl rfl (br_and32 (y := 16777215))) ?_
  refine TL.valG rfl rfl rfl (Y.bin rfl rfl rfl (br_ne32 (y := 0))) ?_
  refine TL.is false (by (simpa using hF.low)) ?_
  refine TL.val rfl rfl rfl (Y.pick_f rfl rfl rfl) ?_
  refine TL.val rfl rfl rfl (Y.move rfl rfl) ?_
  refine TL.valG rfl rfl rfl (Y.move rfl rfl) ?_
  refine TL.valG rfl rfl rfl (Y.conv rfl Try.underlying22 Try.underlying5 rfl (cv_32_8)) ?_
  refine TL.valG rfl rfl rfl (Y.move rfl rfl) ?_
  refine TL.effG rfl rfl rfl (X.call rfl Try.func30 (by kernel_rfl) rfl rfl (Fn.preE (by repeat first | (with_reducible apply Ent.refl) | (apply Ent.cons; case h => first | (with_reducible (repeat first | apply Pull.here | apply Pull.there); done) | (repeat first | apply Pull.here | apply Pull.there))) (rd.Left_fn _ _ _ _))) ?_
  rintro _ _ ⟨rfl, rfl⟩
  refine TL.as (vN (l.length - 8)) (by (rw [List.length_drop])) ?_
  refine TL.effG rfl rfl rfl (X.call rfl Try.func29 (by kernel_rfl) rfl rfl (Fn.preE (by repeat first | (with_reducible apply Ent.refl) | (apply Ent.cons; case h => first | (with_reducible (repeat first | apply Pull.here | apply Pull.there); done) | (repeat first | apply Pull.here | apply Pull.there))) (fits_fn kd.toUInt8 (l.length - 8) (by omega) _))) ?_
  rintro _ _ ⟨rfl, rfl⟩
  refine TL.valG rfl rfl rfl (Y.not rfl rfl) ?_
  refine TL.is false (by (rw [hF.fits]; rfl)) ?_
  refine TL.val rfl rfl rfl (Y.pick_f rfl rfl rfl) ?_
  refine TL.val rfl rfl rfl (Y.move rfl rfl) ?_
  refine TL.valG rfl rfl rfl (Y.move rfl rfl) ?_
  refine TL.valG rfl rfl rfl (Y.bin rfl rfl rfl (br_eq32 (y := 0))) ?_
  refine TL.valG rfl rfl rfl (Y.move rfl rfl) ?_
  refine TL.valG rfl rfl rfl (Y.bin rfl rfl rfl (br_eq32 (y := 1))) ?_
  refine TL.valG rfl rfl rfl (Y.neBool rfl Try.underlying4 rfl rfl) ?_
  refine TL.is false (by (have := hF.tagged; by_cases e1 : n32 l 0 = 0 <;> by_cases e2 : kd = 1 <;> simp_all <;> rw [beq_eq_false_iff_ne.2 e1, beq_eq_false_iff_ne.2 e2])) ?_
  refine TL.val rfl rfl rfl (Y.pick_f rfl rfl rfl) ?_
  refine TL.nil ?_
  refine TQ.next ?_
  refine TC.cond_f rfl ?_
  refine TC.skip ?_
  refine TQ.next ?_
  refine TC.seq ?_
  refine TC.seq ?_
  refine TC.region ?_
  refine TL.val rfl rfl rfl (Y.move rfl rfl) ?_
  refine TL.val rfl rfl rfl (Y.bin rfl rfl rfl (br_leN (n := 2))) ?_
  refine TL.is false (by (rw [decide_eq_false_iff_not]; exact fun h => hk2 (UInt32.le_iff_toNat_le.2 h))) ?_
  refine TL.val rfl rfl rfl (Y.move rfl rfl) ?_
  refine TL.not rfl rfl rfl ?_
  refine TL.not rfl rfl rfl ?_
  refine TL.not rfl rfl rfl ?_
  refine TL.not rfl rfl rfl ?_
  refine TL.not rfl rfl rfl ?_
  refine TL.val rfl rfl rfl (Y.pick_f rfl rfl rfl) ?_
  refine TL.nil ?_
  refine TQ.next ?_
  refine TC.cond_f rfl ?_
  refine TC.skip ?_
  refine TQ.next ?_
  refine TC.seq ?_
  refine TC.block ?_
  refine TC.seq ?_
  refine TC.region ?_
  refine TL.val rfl rfl rfl (Y.move rfl rfl) ?_
  refine TL.val rfl rfl rfl (Y.bin rfl rfl rfl (br_eq32 (y := 1))) ?_
  refine TL.is false (by (rw [beq_eq_false_iff_ne]; rintro rfl; exact hk2 (by decide))) ?_
  refine TL.val rfl rfl rfl (Y.assign rfl rfl) ?_
  refine TL.nil ?_
  refine TQ.next ?_
  refine TC.cond_f rfl ?_
  refine TC.seq ?_
  refine TC.region ?_
  refine TL.val rfl rfl rfl (Y.move rfl rfl) ?_
  refine TL.val rfl rfl rfl (Y.move rfl rfl) ?_
  refine TL.val rfl rfl rfl (Y.nilCheck rfl rfl) ?_
  refine TL.val rfl rfl rfl (by first | exact Y.fieldAddrJ rfl fo68_0 rfl nqq | exact Y.fieldAddr rfl fo68_0 rfl nqq) ?_
  refine TL.val rfl rfl rfl (Y.load rfl sc22 rfl cel32) ?_
  refine TL.as (v32 S.tag) (by rfl) ?_
  refine TL.val rfl rfl rfl (Y.bin rfl rfl rfl (br_ne32)) ?_
  refine TL.is true (by (simpa using ht)) ?_
  refine TL.val rfl rfl rfl (Y.assign rfl rfl) ?_
  refine TL.nil ?_
  refine TQ.next ?_
  refine TC.cond_t rfl ?_
  refine TC.seq ?_
  refine TC.region ?_
  refine TL.val rfl rfl rfl (Y.assign rfl rfl) ?_
  refine TL.val rfl rfl rfl (Y.assign rfl rfl) ?_
  refine TL.val rfl rfl rfl (Y.assign rfl rfl) ?_
  refine TL.nil ?_
  refine TQ.next ?_
  refine TC.ret ?_
  refine TQ.block_ret ?_
  refine TQ.then_ret ?_
  refine TQ.retE (resL rfl (Res.tmp rfl (Res.tmp rfl (Res.tmp rfl Res.nil)))) (⟨rfl, rfl⟩) ?_
  exact ett

theorem H_ack_no (kd : UInt32) (hF : Formed l kd) (hkd : kd = 2) (h0 : n32 l 8 ≠ 0) (ht : n32 l 0 = S.tag) (hs : S.state ≠ 1) (L : List SA) : Fn Try.prog 12 [pt b 0, .slice a n cap, vI now] (aB b p S :: SA.rds 1 (.slice a n cap) n (l.map v8) :: L) (fun v L' => v = noOut 9 ∧ L' = aB b p (S.clocked now) :: SA.rds 1 (.slice a n cap) n (l.map v8) :: L) := by
  have hlen := hF.len
  have hl1 : l.length = 52 := by have := hF.fits; subst hkd; simp [fitsB] at this; omega
  refine Fn.of (N := 160) Try.func12 rfl rfl ?_
  intro Xh
  refine TC.seq ?_
  refine TC.region ?_
  refine TL.val rfl rfl rfl (Y.assign rfl rfl) ?_
  refine TL.val rfl rfl rfl (Y.assign rfl rfl) ?_
  refine TL.val rfl rfl rfl (Y.assign rfl rfl) ?_
  refine TL.nil ?_
  refine TQ.next ?_
  refine TC.seq ?_
  refine TC.seq ?_
  refine TC.region ?_
  refine TL.val rfl rfl rfl (Y.move rfl rfl) ?_
  refine TL.val rfl rfl rfl (by first | exact Y.eqNilP rfl Try.underlying26 rfl rfl | exact Y.eqNil0 rfl Try.underlying26 rfl rfl) ?_
  refine TL.nil ?_
  refine TQ.next ?_
  refine TC.cond_f rfl ?_
  refine TC.skip ?_
  refine TQ.next ?_
  refine TC.seq ?_
  refine TC.region ?_
  refine TL.val rfl rfl rfl (Y.move rfl rfl) ?_
  refine TL.val rfl rfl rfl (Y.move rfl rfl) ?_
  refine TL.val rfl rfl rfl (Y.nilCheck rfl rfl) ?_
  refine TL.val rfl rfl rfl (by first | exact Y.fieldAddrJ rfl fo68_11 rfl nqq | exact Y.fieldAddr rfl fo68_11 rfl nqq) ?_
  refine TL.val rfl rfl rfl (Y.load rfl sc2 rfl celN) ?_
  refine TL.as (vI S.clock) (by rfl) ?_
  refine TL.val rfl rfl rfl (Y.move rfl rfl) ?_
  refine TL.val rfl rfl rfl (Y.maxI rfl rfl rfl) ?_
  refine TL.as (vI (max S.clock now)) (by rfl) ?_
  refine TL.val rfl rfl rfl (Y.nilCheck rfl rfl) ?_
  refine TL.val rfl rfl rfl (by first | exact Y.fieldAddrJ rfl fo68_11 rfl nqq | exact Y.fieldAddr rfl fo68_11 rfl nqq) ?_
  refine TL.eff0 rfl rfl (X.store (cs' := asC p (S.clocked now)) rfl (by kernel_rfl) rfl rfl rfl pul (by show 11 < 17; decide) rfl) ?_
  rintro _ _ rfl
  refine TL.nil ?_
  refine TQ.next ?_
  refine TC.seq ?_
  refine TC.region ?_
  refine TL.val rfl rfl rfl (Y.move rfl rfl) ?_
  refine TL.eff rfl rfl rfl (X.call rfl Try.func26 (by kernel_rfl) rfl rfl (Fn.preE (by repeat first | (with_reducible apply Ent.refl) | (apply Ent.cons; case h => first | (with_reducible (repeat first | apply Pull.here | apply Pull.there); done) | (repeat first | apply Pull.here | apply Pull.there))) (rd.New_fn a n cap l hn hl _))) ?_
  rintro _ _ ⟨p28, rfl, rfl⟩
  refine TL.val rfl rfl rfl (Y.assign rfl rfl) ?_
  refine TL.nil ?_
  refine TQ.next ?_
  refine TC.seq ?_
  refine TC.region ?_
  refine TL.val rfl rfl rfl (Y.move rfl rfl) ?_
  refine TL.eff rfl rfl rfl (X.call rfl Try.func27 (by kernel_rfl) rfl rfl (Fn.preE (by repeat first | (with_reducible apply Ent.refl) | (apply Ent.cons; case h => first | (with_reducible (repeat first | apply Pull.here | apply Pull.there); done) | (repeat first | apply Pull.here | apply Pull.there))) (u32_ok p28 l (by omega) _))) ?_
  rintro _ _ ⟨rfl, rfl⟩
  rw [show num (l.take 4) = n32 l 0 from rfl]
  refine TL.val rfl rfl rfl (Y.move rfl rfl) ?_
  refine TL.eff rfl rfl rfl (X.call rfl Try.func27 (by kernel_rfl) rfl rfl (Fn.preE (by repeat first | (with_reducible apply Ent.refl) | (apply Ent.cons; case h => first | (with_reducible (repeat first | apply Pull.here | apply Pull.there); done) | (repeat first | apply Pull.here | apply Pull.there))) (u32_ok p28 (l.drop 4) (by rw [List.length_drop]; omega) _))) ?_
  rintro _ _ ⟨rfl, rfl⟩
  rw [show num ((l.drop 4).take 4) = n32 l 4 from rfl, List.drop_drop]
  refine TL.val rfl rfl rfl (Y.assign rfl rfl) ?_
  refine TL.val rfl rfl rfl (Y.assign rfl rfl) ?_
  refine TL.nil ?_
  refine TQ.next ?_
  refine TC.seq ?_
  refine TC.region ?_
  refine TL.val rfl rfl rfl (Y.move rfl rfl) ?_
  refine TL.val rfl rfl rfl (Y.bin rfl rfl rfl (br_shr32 (n := 24))) ?_
  refine TL.as (v32 kd) (by (rw [← hF.kind])) ?_
  refine TL.val rfl rfl rfl (Y.assign rfl rfl) ?_
  refine TL.nil ?_
  refine TQ.next ?_
  refine TC.seq ?_
  refine TC.seq ?_
  refine TC.region ?_
  refine TL.val rfl rfl rfl (Y.move rfl rfl) ?_
  refine TL.eff rfl rfl rfl (X.call rfl Try.func28 (by kernel_rfl) rfl rfl (Fn.preE (by repeat first | (with_reducible apply Ent.refl) | (apply Ent.cons; case h => first | (with_reducible (repeat first | apply Pull.here | apply Pull.there); done) | (repeat first | apply Pull.here | apply Pull.there))) (rd.Bad_fn _ _ _ _))) ?_
  rintro _ _ ⟨rfl, rfl⟩
  refine TL.val rfl rfl rfl (Y.move rfl rfl) ?_
  refine TL.valG rfl rfl rfl (Y.move rfl rfl) ?_
  refine TL.valG rfl rfl rfl (Y.bin rfl rfl rfl (br_and32 (y := 16777215))) ?_
  refine TL.valG rfl rfl rfl (Y.bin rfl rfl rfl (br_ne32 (y := 0))) ?_
  refine TL.is false (by (simpa using hF.low)) ?_
  refine TL.val rfl rfl rfl (Y.pick_f rfl rfl rfl) ?_
  refine TL.val rfl rfl rfl (Y.move rfl rfl) ?_
  refine TL.valG rfl rfl rfl (Y.move rfl rfl) ?_
  refine TL.valG rfl rfl rfl (Y.conv rfl Try.underlying22 Try.underlying5 rfl (cv_32_8)) ?_
  refine TL.valG rfl rfl rfl (Y.move rfl rfl) ?_
  refine TL.effG rfl rfl rfl (X.call rfl Try.func30 (by kernel_rfl) rfl rfl (Fn.preE (by repeat first | (with_reducible apply Ent.refl) | (apply Ent.cons; case h => first | (with_reducible (repeat first | apply Pull.here | apply Pull.there); done) | (repeat first | apply Pull.here | apply Pull.there))) (rd.Left_fn _ _ _ _))) ?_
  rintro _ _ ⟨rfl, rfl⟩
  refine TL.as (vN (l.length - 8)) (by (rw [List.length_drop])) ?_
  refine TL.effG rfl rfl rfl (X.call rfl Try.func29 (by kernel_rfl) rfl rfl (Fn.preE (by repeat first | (with_reducible apply Ent.refl) | (apply Ent.cons; case h => first | (with_reducible (repeat first | apply Pull.here | apply Pull.there); done) | (repeat first | apply Pull.here | apply Pull.there))) (fits_fn kd.toUInt8 (l.length - 8) (by omega) _))) ?_
  rintro _ _ ⟨rfl, rfl⟩
  refine TL.valG rfl rfl rfl (Y.not rfl rfl) ?_
  refine TL.is false (by (rw [hF.fits]; rfl)) ?_
  refine TL.val rfl rfl rfl (Y.pick_f rfl rfl rfl) ?_
  refine TL.val rfl rfl rfl (Y.move rfl rfl) ?_
  refine TL.valG rfl rfl rfl (Y.move rfl rfl) ?_
  refine TL.valG rfl rfl rfl (Y.bin rfl rfl rfl (br_eq32 (y := 0))) ?_
  refine TL.valG rfl rfl rfl (Y.move rfl rfl) ?_
  refine TL.valG rfl rfl rfl (Y.bin rfl rfl rfl (br_eq32 (y := 1))) ?_
  refine TL.valG rfl rfl rfl (Y.neBool rfl Try.underlying4 rfl rfl) ?_
  refine TL.is false (by (have := hF.tagged; by_cases e1 : n32 l 0 = 0 <;> by_cases e2 : kd = 1 <;> simp_all <;> rw [beq_eq_false_iff_ne.2 e1, beq_eq_false_iff_ne.2 e2])) ?_
  refine TL.val rfl rfl rfl (Y.pick_f rfl rfl rfl) ?_
  refine TL.nil ?_
  refine TQ.next ?_
  refine TC.cond_f rfl ?_
  refine TC.skip ?_
  refine TQ.next ?_
  refine TC.seq ?_
  refine TC.seq ?_
  refine TC.region ?_
  refine TL.val rfl rfl rfl (Y.move rfl rfl) ?_
  refine TL.val rfl rfl rfl (Y.bin rfl rfl rfl (br_leN (n := 2))) ?_
  refine TL.is true (by (subst hkd; decide)) ?_
  refine TL.val rfl rfl rfl (Y.move rfl rfl) ?_
  refine TL.valG rfl rfl rfl (Y.move rfl rfl) ?_
  refine TL.valG rfl rfl rfl (Y.sliceLo (k := 8) rfl Try.underlying23 sz5 rfl rfl (by omega)) ?_
  refine TL.effG rfl rfl rfl (X.call rfl Try.func26 (by kernel_rfl) rfl rfl (Fn.preE (by repeat first | (with_reducible apply Ent.refl) | (apply Ent.cons; case h => first | (with_reducible (repeat first | apply Pull.here | apply Pull.there); done) | (repeat first | apply Pull.here | apply Pull.there))) (rd.New_gen (SA.rds 1 (.slice a n cap) n (l.map v8)) _ (n - 8) (cap - 8) (l.drop 8) (Reads.tail8 Reads.rds (by omega)) (by rw [List.length_drop]; omega) (by omega) _))) ?_
  rintro _ _ ⟨p62, rfl, rfl⟩
  refine TL.effG rfl rfl rfl (X.call rfl Try.func27 (by kernel_rfl) rfl rfl (Fn.preE (by repeat first | (with_reducible apply Ent.refl) | (apply Ent.cons; case h => first | (with_reducible (repeat first | apply Pull.here | apply Pull.there); done) | (repeat first | apply Pull.here | apply Pull.there))) (u32_ok p62 (l.drop 8) (by rw [List.length_drop]; omega) _))) ?_
  rintro _ _ ⟨rfl, rfl⟩
  rw [show num ((l.drop 8).take 4) = n32 l 8 from rfl]
  refine TL.valG rfl rfl rfl (Y.bin rfl rfl rfl (br_eq32 (y := 0))) ?_
  refine TL.is false (by (simpa using h0)) ?_
  refine TL.val rfl rfl rfl (Y.pick_t rfl rfl rfl) ?_
  refine TL.nil ?_
  refine TQ.next ?_
  refine TC.cond_f rfl ?_
  refine TC.skip ?_
  refine TQ.next ?_
  refine TC.seq ?_
  refine TC.block ?_
  refine TC.seq ?_
  refine TC.region ?_
  refine TL.val rfl rfl rfl (Y.move rfl rfl) ?_
  refine TL.val rfl rfl rfl (Y.bin rfl rfl rfl (br_eq32 (y := 1))) ?_
  refine TL.is false (by (subst hkd; decide)) ?_
  refine TL.val rfl rfl rfl (Y.assign rfl rfl) ?_
  refine TL.nil ?_
  refine TQ.next ?_
  refine TC.cond_f rfl ?_
  refine TC.seq ?_
  refine TC.region ?_
  refine TL.val rfl rfl rfl (Y.move rfl rfl) ?_
  refine TL.val rfl rfl rfl (Y.move rfl rfl) ?_
  refine TL.val rfl rfl rfl (Y.nilCheck rfl rfl) ?_
  refine TL.val rfl rfl rfl (by first | exact Y.fieldAddrJ rfl fo68_0 rfl nqq | exact Y.fieldAddr rfl fo68_0 rfl nqq) ?_
  refine TL.val rfl rfl rfl (Y.load rfl sc22 rfl cel32) ?_
  refine TL.as (v32 S.tag) (by rfl) ?_
  refine TL.val rfl rfl rfl (Y.bin rfl rfl rfl (br_ne32)) ?_
  refine TL.is false (by (simpa using ht)) ?_
  refine TL.val rfl rfl rfl (Y.assign rfl rfl) ?_
  refine TL.nil ?_
  refine TQ.next ?_
  refine TC.cond_f rfl ?_
  refine TC.seq ?_
  refine TC.region ?_
  refine TL.val rfl rfl rfl (Y.move rfl rfl) ?_
  refine TL.val rfl rfl rfl (Y.bin rfl rfl rfl (br_eq32 (y := 2))) ?_
  refine TL.is true (by (subst hkd; decide)) ?_
  refine TL.val rfl rfl rfl (Y.assign rfl rfl) ?_
  refine TL.nil ?_
  refine TQ.next ?_
  refine TC.cond_t rfl ?_
  refine TC.seq ?_
  refine TC.region ?_
  refine TL.val rfl rfl rfl (Y.move rfl rfl) ?_
  refine TL.val rfl rfl rfl (Y.move rfl rfl) ?_
  refine TL.eff rfl rfl rfl (X.call rfl Try.func32 (by kernel_rfl) rfl rfl (Fn.preE (by repeat first | (with_reducible apply Ent.refl) | (apply Ent.cons; case h => first | (with_reducible (repeat first | apply Pull.here | apply Pull.there); done) | (repeat first | apply Pull.here | apply Pull.there))) (initialAck_no b p (S.clocked now) p28 (l.drop 8) hs _))) ?_
  rintro _ _ ⟨rfl, rfl⟩
  refine TL.val rfl rfl rfl (Y.extract rfl rfl rfl) ?_
  refine TL.val rfl rfl rfl (Y.extract rfl rfl rfl) ?_
  refine TL.val rfl rfl rfl (Y.extract rfl rfl rfl) ?_
  refine TL.val rfl rfl rfl (Y.assign rfl rfl) ?_
  refine TL.val rfl rfl rfl (Y.assign rfl rfl) ?_
  refine TL.val rfl rfl rfl (Y.assign rfl rfl) ?_
  refine TL.nil ?_
  refine TQ.next ?_
  refine TC.ret ?_
  refine TQ.block_ret ?_
  refine TQ.then_ret ?_
  refine TQ.retE (resL rfl (Res.tmp rfl (Res.tmp rfl (Res.tmp rfl Res.nil)))) (⟨rfl, rfl⟩) ?_
  exact ett

theorem H_ack_yes (kd : UInt32) (hF : Formed l kd) (hkd : kd = 2) (h0 : n32 l 8 ≠ 0) (ht : n32 l 0 = S.tag) (hs : S.state = 1) (L : List SA) : Fn Try.prog 12 [pt b 0, .slice a n cap, vI now] (aB b p S :: SA.rds 1 (.slice a n cap) n (l.map v8) :: L) (fun v L' => ∃ (o : Sl Bs) (ha : Option Addr) (hc : Nat), v = .tuple #[o.v, .slice none 0 0, vN 0] ∧ o.l.map (·.l) = [echoB (n32 l 8) (l.drop 16)] ∧ L' = SA.dat o :: aB b { p with ha := ha, hc := hc } ((S.clocked now).echo (n32 l 8) (n32 l 12) (l.drop 16)) :: aH { p with ha := ha, hc := hc } ((S.clocked now).echo (n32 l 8) (n32 l 12) (l.drop 16)) :: SA.rds 1 (.slice a n cap) n (l.map v8) :: L) := by
  have hlen := hF.len
  have hl1 : l.length = 52 := by have := hF.fits; subst hkd; simp [fitsB] at this; omega
  refine Fn.of (N := 160) Try.func12 rfl rfl ?_
  intro Xh
  refine TC.seq ?_
  refine TC.region ?_
  refine TL.val rfl rfl rfl (Y.assign rfl rfl) ?_
  refine TL.val rfl rfl rfl (Y.assign rfl rfl) ?_
  refine TL.val rfl rfl rfl (Y.assign rfl rfl) ?_
  refine TL.nil ?_
  refine TQ.next ?_
  refine TC.seq ?_
  refine TC.seq ?_
  refine TC.region ?_
  refine TL.val rfl rfl rfl (Y.move rfl rfl) ?_
  refine TL.val rfl rfl rfl (by first | exact Y.eqNilP rfl Try.underlying26 rfl rfl | exact Y.eqNil0 rfl Try.underlying26 rfl rfl) ?_
  refine TL.nil ?_
  refine TQ.next ?_
  refine TC.cond_f rfl ?_
  refine TC.skip ?_
  refine TQ.next ?_
  refine TC.seq ?_
  refine TC.region ?_
  refine TL.val rfl rfl rfl (Y.move rfl rfl) ?_
  refine TL.val rfl rfl rfl (Y.move rfl rfl) ?_
  refine TL.val rfl rfl rfl (Y.nilCheck rfl rfl) ?_
  refine TL.val rfl rfl rfl (by first | exact Y.fieldAddrJ rfl fo68_11 rfl nqq | exact Y.fieldAddr rfl fo68_11 rfl nqq) ?_
  refine TL.val rfl rfl rfl (Y.load rfl sc2 rfl celN) ?_
  refine TL.as (vI S.clock) (by rfl) ?_
  refine TL.val rfl rfl rfl (Y.move rfl rfl) ?_
  refine TL.val rfl rfl rfl (Y.maxI rfl rfl rfl) ?_
  refine TL.as (vI (max S.clock now)) (by rfl) ?_
  refine TL.val rfl rfl rfl (Y.nilCheck rfl rfl) ?_
  refine TL.val rfl rfl rfl (by first | exact Y.fieldAddrJ rfl fo68_11 rfl nqq | exact Y.fieldAddr rfl fo68_11 rfl nqq) ?_
  refine TL.eff0 rfl rfl (X.store (cs' := asC p (S.clocked now)) rfl (by kernel_rfl) rfl rfl rfl pul (by show 11 < 17; decide) rfl) ?_
  rintro _ _ rfl
  refine TL.nil ?_
  refine TQ.next ?_
  refine TC.seq ?_
  refine TC.region ?_
  refine TL.val rfl rfl rfl (Y.move rfl rfl) ?_
  refine TL.eff rfl rfl rfl (X.call rfl Try.func26 (by kernel_rfl) rfl rfl (Fn.preE (by repeat first | (with_reducible apply Ent.refl) | (apply Ent.cons; case h => first | (with_reducible (repeat first | apply Pull.here | apply Pull.there); done) | (repeat first | apply Pull.here | apply Pull.there))) (rd.New_fn a n cap l hn hl _))) ?_
  rintro _ _ ⟨p28, rfl, rfl⟩
  refine TL.val rfl rfl rfl (Y.assign rfl rfl) ?_
  refine TL.nil ?_
  refine TQ.next ?_
  refine TC.seq ?_
  refine TC.region ?_
  refine TL.val rfl rfl rfl (Y.move rfl rfl) ?_
  refine TL.eff rfl rfl rfl (X.call rfl Try.func27 (by kernel_rfl) rfl rfl (Fn.preE (by repeat first | (with_reducible apply Ent.refl) | (apply Ent.cons; case h => first | (with_reducible (repeat first | apply Pull.here | apply Pull.there); done) | (repeat first | apply Pull.here | apply Pull.there))) (u32_ok p28 l (by omega) _))) ?_
  rintro _ _ ⟨rfl, rfl⟩
  rw [show num (l.take 4) = n32 l 0 from rfl]
  refine TL.val rfl rfl rfl (Y.move rfl rfl) ?_
  refine TL.eff rfl rfl rfl (X.call rfl Try.func27 (by kernel_rfl) rfl rfl (Fn.preE (by repeat first | (with_reducible apply Ent.refl) | (apply Ent.cons; case h => first | (with_reducible (repeat first | apply Pull.here | apply Pull.there); done) | (repeat first | apply Pull.here | apply Pull.there))) (u32_ok p28 (l.drop 4) (by rw [List.length_drop]; omega) _))) ?_
  rintro _ _ ⟨rfl, rfl⟩
  rw [show num ((l.drop 4).take 4) = n32 l 4 from rfl, List.drop_drop]
  refine TL.val rfl rfl rfl (Y.assign rfl rfl) ?_
  refine TL.val rfl rfl rfl (Y.assign rfl rfl) ?_
  refine TL.nil ?_
  refine TQ.next ?_
  refine TC.seq ?_
  refine TC.region ?_
  refine TL.val rfl rfl rfl (Y.move rfl rfl) ?_
  refine TL.val rfl rfl rfl (Y.bin rfl rfl rfl (br_shr32 (n := 24))) ?_
  refine TL.as (v32 kd) (by (rw [← hF.kind])) ?_
  refine TL.val rfl rfl rfl (Y.assign rfl rfl) ?_
  refine TL.nil ?_
  refine TQ.next ?_
  refine TC.seq ?_
  refine TC.seq ?_
  refine TC.region ?_
  refine TL.val rfl rfl rfl (Y.move rfl rfl) ?_
  refine TL.eff rfl rfl rfl (X.call rfl Try.func28 (by kernel_rfl) rfl rfl (Fn.preE (by repeat first | (with_reducible apply Ent.refl) | (apply Ent.cons; case h => first | (with_reducible (repeat first | apply Pull.here | apply Pull.there); done) | (repeat first | apply Pull.here | apply Pull.there))) (rd.Bad_fn _ _ _ _))) ?_
  rintro _ _ ⟨rfl, rfl⟩
  refine TL.val rfl rfl rfl (Y.move rfl rfl) ?_
  refine TL.valG rfl rfl rfl (Y.move rfl rfl) ?_
  refine TL.valG rfl rfl rfl (Y.bin rfl rfl rfl (br_and32 (y := 16777215))) ?_
  refine TL.valG rfl rfl rfl (Y.bin rfl rfl rfl (br_ne32 (y := 0))) ?_
  refine TL.is false (by (simpa using hF.low)) ?_
  refine TL.val rfl rfl rfl (Y.pick_f rfl rfl rfl) ?_
  refine TL.val rfl rfl rfl (Y.move rfl rfl) ?_
  refine TL.valG rfl rfl rfl (Y.move rfl rfl) ?_
  refine TL.valG rfl rfl rfl (Y.conv rfl Try.underlying22 Try.underlying5 rfl (cv_32_8)) ?_
  refine TL.valG rfl rfl rfl (Y.move rfl rfl) ?_
  refine TL.effG rfl rfl rfl (X.call rfl Try.func30 (by kernel_rfl) rfl rfl (Fn.preE (by repeat first | (with_reducible apply Ent.refl) | (apply Ent.cons; case h => first | (with_reducible (repeat first | apply Pull.here | apply Pull.there); done) | (repeat first | apply Pull.here | apply Pull.there))) (rd.Left_fn _ _ _ _))) ?_
  rintro _ _ ⟨rfl, rfl⟩
  refine TL.as (vN (l.length - 8)) (by (rw [List.length_drop])) ?_
  refine TL.effG rfl rfl rfl (X.call rfl Try.func29 (by kernel_rfl) rfl rfl (Fn.preE (by repeat first | (with_reducible apply Ent.refl) | (apply Ent.cons; case h => first | (with_reducible (repeat first | apply Pull.here | apply Pull.there); done) | (repeat first | apply Pull.here | apply Pull.there))) (fits_fn kd.toUInt8 (l.length - 8) (by omega) _))) ?_
  rintro _ _ ⟨rfl, rfl⟩
  refine TL.valG rfl rfl rfl (Y.not rfl rfl) ?_
  refine TL.is false (by (rw [hF.fits]; rfl)) ?_
  refine TL.val rfl rfl rfl (Y.pick_f rfl rfl rfl) ?_
  refine TL.val rfl rfl rfl (Y.move rfl rfl) ?_
  refine TL.valG rfl rfl rfl (Y.move rfl rfl) ?_
  refine TL.valG rfl rfl rfl (Y.bin rfl rfl rfl (br_eq32 (y := 0))) ?_
  refine TL.valG rfl rfl rfl (Y.move rfl rfl) ?_
  refine TL.valG rfl rfl rfl (Y.bin rfl rfl rfl (br_eq32 (y := 1))) ?_
  refine TL.valG rfl rfl rfl (Y.neBool rfl Try.underlying4 rfl rfl) ?_
  refine TL.is false (by (have := hF.tagged; by_cases e1 : n32 l 0 = 0 <;> by_cases e2 : kd = 1 <;> simp_all <;> rw [beq_eq_false_iff_ne.2 e1, beq_eq_false_iff_ne.2 e2])) ?_
  refine TL.val rfl rfl rfl (Y.pick_f rfl rfl rfl) ?_
  refine TL.nil ?_
  refine TQ.next ?_
  refine TC.cond_f rfl ?_
  refine TC.skip ?_
  refine TQ.next ?_
  refine TC.seq ?_
  refine TC.seq ?_
  refine TC.region ?_
  refine TL.val rfl rfl rfl (Y.move rfl rfl) ?_
  refine TL.val rfl rfl rfl (Y.bin rfl rfl rfl (br_leN (n := 2))) ?_
  refine TL.is true (by (subst hkd; decide)) ?_
  refine TL.val rfl rfl rfl (Y.move rfl rfl) ?_
  refine TL.valG rfl rfl rfl (Y.move rfl rfl) ?_
  refine TL.valG rfl rfl rfl (Y.sliceLo (k := 8) rfl Try.underlying23 sz5 rfl rfl (by omega)) ?_
  refine TL.effG rfl rfl rfl (X.call rfl Try.func26 (by kernel_rfl) rfl rfl (Fn.preE (by repeat first | (with_reducible apply Ent.refl) | (apply Ent.cons; case h => first | (with_reducible (repeat first | apply Pull.here | apply Pull.there); done) | (repeat first | apply Pull.here | apply Pull.there))) (rd.New_gen (SA.rds 1 (.slice a n cap) n (l.map v8)) _ (n - 8) (cap - 8) (l.drop 8) (Reads.tail8 Reads.rds (by omega)) (by rw [List.length_drop]; omega) (by omega) _))) ?_
  rintro _ _ ⟨p62, rfl, rfl⟩
  refine TL.effG rfl rfl rfl (X.call rfl Try.func27 (by kernel_rfl) rfl rfl (Fn.preE (by repeat first | (with_reducible apply Ent.refl) | (apply Ent.cons; case h => first | (with_reducible (repeat first | apply Pull.here | apply Pull.there); done) | (repeat first | apply Pull.here | apply Pull.there))) (u32_ok p62 (l.drop 8) (by rw [List.length_drop]; omega) _))) ?_
  rintro _ _ ⟨rfl, rfl⟩
  rw [show num ((l.drop 8).take 4) = n32 l 8 from rfl]
  refine TL.valG rfl rfl rfl (Y.bin rfl rfl rfl (br_eq32 (y := 0))) ?_
  refine TL.is false (by (simpa using h0)) ?_
  refine TL.val rfl rfl rfl (Y.pick_t rfl rfl rfl) ?_
  refine TL.nil ?_
  refine TQ.next ?_
  refine TC.cond_f rfl ?_
  refine TC.skip ?_
  refine TQ.next ?_
  refine TC.seq ?_
  refine TC.block ?_
  refine TC.seq ?_
  refine TC.region ?_
  refine TL.val rfl rfl rfl (Y.move rfl rfl) ?_
  refine TL.val rfl rfl rfl (Y.bin rfl rfl rfl (br_eq32 (y := 1))) ?_
  refine TL.is false (by (subst hkd; decide)) ?_
  refine TL.val rfl rfl rfl (Y.assign rfl rfl) ?_
  refine TL.nil ?_
  refine TQ.next ?_
  refine TC.cond_f rfl ?_
  refine TC.seq ?_
  refine TC.region ?_
  refine TL.val rfl rfl rfl (Y.move rfl rfl) ?_
  refine TL.val rfl rfl rfl (Y.move rfl rfl) ?_
  refine TL.val rfl rfl rfl (Y.nilCheck rfl rfl) ?_
  refine TL.val rfl rfl rfl (by first | exact Y.fieldAddrJ rfl fo68_0 rfl nqq | exact Y.fieldAddr rfl fo68_0 rfl nqq) ?_
  refine TL.val rfl rfl rfl (Y.load rfl sc22 rfl cel32) ?_
  refine TL.as (v32 S.tag) (by rfl) ?_
  refine TL.val rfl rfl rfl (Y.bin rfl rfl rfl (br_ne32)) ?_
  refine TL.is false (by (simpa using ht)) ?_
  refine TL.val rfl rfl rfl (Y.assign rfl rfl) ?_
  refine TL.nil ?_
  refine TQ.next ?_
  refine TC.cond_f rfl ?_
  refine TC.seq ?_
  refine TC.region ?_
  refine TL.val rfl rfl rfl (Y.move rfl rfl) ?_
  refine TL.val rfl rfl rfl (Y.bin rfl rfl rfl (br_eq32 (y := 2))) ?_
  refine TL.is true (by (subst hkd; decide)) ?_
  refine TL.val rfl rfl rfl (Y.assign rfl rfl) ?_
  refine TL.nil ?_
  refine TQ.next ?_
  refine TC.cond_t rfl ?_
  refine TC.seq ?_
  refine TC.region ?_
  refine TL.val rfl rfl rfl (Y.move rfl rfl) ?_
  refine TL.val rfl rfl rfl (Y.move rfl rfl) ?_
  refine TL.eff rfl rfl rfl (X.call rfl Try.func32 (by kernel_rfl) rfl rfl (Fn.preE (by repeat first | (with_reducible apply Ent.refl) | (apply Ent.cons; case h => first | (with_reducible (repeat first | apply Pull.here | apply Pull.there); done) | (repeat first | apply Pull.here | apply Pull.there))) (initialAck_yes b p (S.clocked now) p28 (l.drop 8) (by rw [List.length_drop]; omega) hs _))) ?_
  rintro _ _ ⟨o, ha, hc, rfl, ho, rfl⟩
  simp only [List.drop_drop] at ho ⊢
  refine TL.val rfl rfl rfl (Y.extract rfl rfl rfl) ?_
  refine TL.val rfl rfl rfl (Y.extract rfl rfl rfl) ?_
  refine TL.val rfl rfl rfl (Y.extract rfl rfl rfl) ?_
  refine TL.val rfl rfl rfl (Y.assign rfl rfl) ?_
  refine TL.val rfl rfl rfl (Y.assign rfl rfl) ?_
  refine TL.val rfl rfl rfl (Y.assign rfl rfl) ?_
  refine TL.nil ?_
  refine TQ.next ?_
  refine TC.ret ?_
  refine TQ.block_ret ?_
  refine TQ.then_ret ?_
  refine TQ.retE (resL rfl (Res.tmp rfl (Res.tmp rfl (Res.tmp rfl Res.nil)))) (⟨o, ha, hc, rfl, ho, rfl⟩) ?_
  exact ett

theorem H_ck_bad (kd : UInt32) (hF : Formed l kd) (hkd : kd = 3) (ht : n32 l 0 = S.tag) (hsec : S.secret.length ≤ 140737488351232) (hc : l.drop 8 ≠ cookieB (S.clocked now) (n32 l 8) (n32 l 12)) (L : List SA) : Fn Try.prog 12 [pt b 0, .slice a n cap, vI now] (aB b p S :: SA.rds 1 (.slice a n cap) n (l.map v8) :: aS p (S.clocked now) :: L) (fun v L' => v = noOut 4 ∧ L' = aB b p (S.clocked now) :: aS p (S.clocked now) :: SA.rds 1 (.slice a n cap) n (l.map v8) :: L) := by
  have hlen := hF.len
  have hl1 : l.length = 44 := by have := hF.fits; subst hkd; simp [fitsB] at this; omega
  refine Fn.of (N := 160) Try.func12 rfl rfl ?_
  intro Xh
  refine TC.seq ?_
  refine TC.region ?_
  refine TL.val rfl rfl rfl (Y.assign rfl rfl) ?_
  refine TL.val rfl rfl rfl (Y.assign rfl rfl) ?_
  refine TL.val rfl rfl rfl (Y.assign rfl rfl) ?_
  refine TL.nil ?_
  refine TQ.next ?_
  refine TC.seq ?_
  refine TC.seq ?_
  refine TC.region ?_
  refine TL.val rfl rfl rfl (Y.move rfl rfl) ?_
  refine TL.val rfl rfl rfl (by first | exact Y.eqNilP rfl Try.underlying26 rfl rfl | exact Y.eqNil0 rfl Try.underlying26 rfl rfl) ?_
  refine TL.nil ?_
  refine TQ.next ?_
  refine TC.cond_f rfl ?_
  refine TC.skip ?_
  refine TQ.next ?_
  refine TC.seq ?_
  refine TC.region ?_
  refine TL.val rfl rfl rfl (Y.move rfl rfl) ?_
  refine TL.val rfl rfl rfl (Y.move rfl rfl) ?_
  refine TL.val rfl rfl rfl (Y.nilCheck rfl rfl) ?_
  refine TL.val rfl rfl rfl (by first | exact Y.fieldAddrJ rfl fo68_11 rfl nqq | exact Y.fieldAddr rfl fo68_11 rfl nqq) ?_
  refine TL.val rfl rfl rfl (Y.load rfl sc2 rfl celN) ?_
  refine TL.as (vI S.clock) (by rfl) ?_
  refine TL.val rfl rfl rfl (Y.move rfl rfl) ?_
  refine TL.val rfl rfl rfl (Y.maxI rfl rfl rfl) ?_
  refine TL.as (vI (max S.clock now)) (by rfl) ?_
  refine TL.val rfl rfl rfl (Y.nilCheck rfl rfl) ?_
  refine TL.val rfl rfl rfl (by first | exact Y.fieldAddrJ rfl fo68_11 rfl nqq | exact Y.fieldAddr rfl fo68_11 rfl nqq) ?_
  refine TL.eff0 rfl rfl (X.store (cs' := asC p (S.clocked now)) rfl (by kernel_rfl) rfl rfl rfl pul (by show 11 < 17; decide) rfl) ?_
  rintro _ _ rfl
  refine TL.nil ?_
  refine TQ.next ?_
  refine TC.seq ?_
  refine TC.region ?_
  refine TL.val rfl rfl rfl (Y.move rfl rfl) ?_
  refine TL.eff rfl rfl rfl (X.call rfl Try.func26 (by kernel_rfl) rfl rfl (Fn.preE (by repeat first | (with_reducible apply Ent.refl) | (apply Ent.cons; case h => first | (with_reducible (repeat first | apply Pull.here | apply Pull.there); done) | (repeat first | apply Pull.here | apply Pull.there))) (rd.New_fn a n cap l hn hl _))) ?_
  rintro _ _ ⟨p28, rfl, rfl⟩
  refine TL.val rfl rfl rfl (Y.assign rfl rfl) ?_
  refine TL.nil ?_
  refine TQ.next ?_
  refine TC.seq ?_
  refine TC.region ?_
  refine TL.val rfl rfl rfl (Y.move rfl rfl) ?_
  refine TL.eff rfl rfl rfl (X.call rfl Try.func27 (by kernel_rfl) rfl rfl (Fn.preE (by repeat first | (with_reducible apply Ent.refl) | (apply Ent.cons; case h => first | (with_reducible (repeat first | apply Pull.here | apply Pull.there); done) | (repeat first | apply Pull.here | apply Pull.there))) (u32_ok p28 l (by omega) _))) ?_
  rintro _ _ ⟨rfl, rfl⟩
  rw [show num (l.take 4) = n32 l 0 from rfl]
  refine TL.val rfl rfl rfl (Y.move rfl rfl) ?_
  refine TL.eff rfl rfl rfl (X.call rfl Try.func27 (by kernel_rfl) rfl rfl (Fn.preE (by repeat first | (with_reducible apply Ent.refl) | (apply Ent.cons; case h => first | (with_reducible (repeat first | apply Pull.here | apply Pull.there); done) | (repeat first | apply Pull.here | apply Pull.there))) (u32_ok p28 (l.drop 4) (by rw [List.length_drop]; omega) _))) ?_
  rintro _ _ ⟨rfl, rfl⟩
  rw [show num ((l.drop 4).take 4) = n32 l 4 from rfl, List.drop_drop]
  refine TL.val rfl rfl rfl (Y.assign rfl rfl) ?_
  refine TL.val rfl rfl rfl (Y.assign rfl rfl) ?_
  refine TL.nil ?_
  refine TQ.next ?_
  refine TC.seq ?_
  refine TC.region ?_
  refine TL.val rfl rfl rfl (Y.move rfl rfl) ?_
  refine TL.val rfl rfl rfl (Y.bin rfl rfl rfl (br_shr32 (n := 24))) ?_
  refine TL.as (v32 kd) (by (rw [← hF.kind])) ?_
  refine TL.val rfl rfl rfl (Y.assign rfl rfl) ?_
  refine TL.nil ?_
  refine TQ.next ?_
  refine TC.seq ?_
  refine TC.seq ?_
  refine TC.region ?_
  refine TL.val rfl rfl rfl (Y.move rfl rfl) ?_
  refine TL.eff rfl rfl rfl (X.call rfl Try.func28 (by kernel_rfl) rfl rfl (Fn.preE (by repeat first | (with_reducible apply Ent.refl) | (apply Ent.cons; case h => first | (with_reducible (repeat first | apply Pull.here | apply Pull.there); done) | (repeat first | apply Pull.here | apply Pull.there))) (rd.Bad_fn _ _ _ _))) ?_
  rintro _ _ ⟨rfl, rfl⟩
  refine TL.val rfl rfl rfl (Y.move rfl rfl) ?_
  refine TL.valG rfl rfl rfl (Y.move rfl rfl) ?_
  refine TL.valG rfl rfl rfl (Y.bin rfl rfl rfl (br_and32 (y := 16777215))) ?_
  refine TL.valG rfl rfl rfl (Y.bin rfl rfl rfl (br_ne32 (y := 0))) ?_
  refine TL.is false (by (simpa using hF.low)) ?_
  refine TL.val rfl rfl rfl (Y.pick_f rfl rfl rfl) ?_
  refine TL.val rfl rfl rfl (Y.move rfl rfl) ?_
  refine TL.valG rfl rfl rfl (Y.move rfl rfl) ?_
  refine TL.valG rfl rfl rfl (Y.conv rfl Try.underlying22 Try.underlying5 rfl (cv_32_8)) ?_
  refine TL.valG rfl rfl rfl (Y.move rfl rfl) ?_
  refine TL.effG rfl rfl rfl (X.call rfl Try.func30 (by kernel_rfl) rfl rfl (Fn.preE (by repeat first | (with_reducible apply Ent.refl) | (apply Ent.cons; case h => first | (with_reducible (repeat first | apply Pull.here | apply Pull.there); done) | (repeat first | apply Pull.here | apply Pull.there))) (rd.Left_fn _ _ _ _))) ?_
  rintro _ _ ⟨rfl, rfl⟩
  refine TL.as (vN (l.length - 8)) (by (rw [List.length_drop])) ?_
  refine TL.effG rfl rfl rfl (X.call rfl Try.func29 (by kernel_rfl) rfl rfl (Fn.preE (by repeat first | (with_reducible apply Ent.refl) | (apply Ent.cons; case h => first | (with_reducible (repeat first | apply Pull.here | apply Pull.there); done) | (repeat first | apply Pull.here | apply Pull.there))) (fits_fn kd.toUInt8 (l.length - 8) (by omega) _))) ?_
  rintro _ _ ⟨rfl, rfl⟩
  refine TL.valG rfl rfl rfl (Y.not rfl rfl) ?_
  refine TL.is false (by (rw [hF.fits]; rfl)) ?_
  refine TL.val rfl rfl rfl (Y.pick_f rfl rfl rfl) ?_
  refine TL.val rfl rfl rfl (Y.move rfl rfl) ?_
  refine TL.valG rfl rfl rfl (Y.move rfl rfl) ?_
  refine TL.valG rfl rfl rfl (Y.bin rfl rfl rfl (br_eq32 (y := 0))) ?_
  refine TL.valG rfl rfl rfl (Y.move rfl rfl) ?_
  refine TL.valG rfl rfl rfl (Y.bin rfl rfl rfl (br_eq32 (y := 1))) ?_
  refine TL.valG rfl rfl rfl (Y.neBool rfl Try.underlying4 rfl rfl) ?_
  refine TL.is false (by (have := hF.tagged; by_cases e1 : n32 l 0 = 0 <;> by_cases e2 : kd = 1 <;> simp_all <;> rw [beq_eq_false_iff_ne.2 e1, beq_eq_false_iff_ne.2 e2])) ?_
  refine TL.val rfl rfl rfl (Y.pick_f rfl rfl rfl) ?_
  refine TL.nil ?_
  refine TQ.next ?_
  refine TC.cond_f rfl ?_
  refine TC.skip ?_
  refine TQ.next ?_
  refine TC.seq ?_
  refine TC.seq ?_
  refine TC.region ?_
  refine TL.val rfl rfl rfl (Y.move rfl rfl) ?_
  refine TL.val rfl rfl rfl (Y.bin rfl rfl rfl (br_leN (n := 2))) ?_
  refine TL.is false (by (subst hkd; decide)) ?_
  refine TL.val rfl rfl rfl (Y.move rfl rfl) ?_
  refine TL.not rfl rfl rfl ?_
  refine TL.not rfl rfl rfl ?_
  refine TL.not rfl rfl rfl ?_
  refine TL.not rfl rfl rfl ?_
  refine TL.not rfl rfl rfl ?_
  refine TL.val rfl rfl rfl (Y.pick_f rfl rfl rfl) ?_
  refine TL.nil ?_
  refine TQ.next ?_
  refine TC.cond_f rfl ?_
  refine TC.skip ?_
  refine TQ.next ?_
  refine TC.seq ?_
  refine TC.block ?_
  refine TC.seq ?_
  refine TC.region ?_
  refine TL.val rfl rfl rfl (Y.move rfl rfl) ?_
  refine TL.val rfl rfl rfl (Y.bin rfl rfl rfl (br_eq32 (y := 1))) ?_
  refine TL.is false (by (subst hkd; decide)) ?_
  refine TL.val rfl rfl rfl (Y.assign rfl rfl) ?_
  refine TL.nil ?_
  refine TQ.next ?_
  refine TC.cond_f rfl ?_
  refine TC.seq ?_
  refine TC.region ?_
  refine TL.val rfl rfl rfl (Y.move rfl rfl) ?_
  refine TL.val rfl rfl rfl (Y.move rfl rfl) ?_
  refine TL.val rfl rfl rfl (Y.nilCheck rfl rfl) ?_
  refine TL.val rfl rfl rfl (by first | exact Y.fieldAddrJ rfl fo68_0 rfl nqq | exact Y.fieldAddr rfl fo68_0 rfl nqq) ?_
  refine TL.val rfl rfl rfl (Y.load rfl sc22 rfl cel32) ?_
  refine TL.as (v32 S.tag) (by rfl) ?_
  refine TL.val rfl rfl rfl (Y.bin rfl rfl rfl (br_ne32)) ?_
  refine TL.is false (by (simpa using ht)) ?_
  refine TL.val rfl rfl rfl (Y.assign rfl rfl) ?_
  refine TL.nil ?_
  refine TQ.next ?_
  refine TC.cond_f rfl ?_
  refine TC.seq ?_
  refine TC.region ?_
  refine TL.val rfl rfl rfl (Y.move rfl rfl) ?_
  refine TL.val rfl rfl rfl (Y.bin rfl rfl rfl (br_eq32 (y := 2))) ?_
  refine TL.is false (by (subst hkd; decide)) ?_
  refine TL.val rfl rfl rfl (Y.assign rfl rfl) ?_
  refine TL.nil ?_
  refine TQ.next ?_
  refine TC.cond_f rfl ?_
  refine TC.seq ?_
  refine TC.region ?_
  refine TL.val rfl rfl rfl (Y.move rfl rfl) ?_
  refine TL.val rfl rfl rfl (Y.bin rfl rfl rfl (br_eq32 (y := 3))) ?_
  refine TL.is true (by (subst hkd; decide)) ?_
  refine TL.val rfl rfl rfl (Y.assign rfl rfl) ?_
  refine TL.nil ?_
  refine TQ.next ?_
  refine TC.cond_t rfl ?_
  refine TC.seq ?_
  refine TC.region ?_
  refine TL.val rfl rfl rfl (Y.move rfl rfl) ?_
  refine TL.val rfl rfl rfl (Y.move rfl rfl) ?_
  refine TL.eff rfl rfl rfl (X.call rfl Try.func33 (by kernel_rfl) rfl rfl (Fn.preE (by repeat first | (with_reducible apply Ent.refl) | (apply Ent.cons; case h => first | (with_reducible (repeat first | apply Pull.here | apply Pull.there); done) | (repeat first | apply Pull.here | apply Pull.there))) (cookied_bad b p (S.clocked now) p28 (l.drop 8) (by rw [List.length_drop]; omega) hsec (by rw [List.drop_drop]; exact hc) _))) ?_
  rintro _ _ ⟨rfl, rfl⟩
  refine TL.val rfl rfl rfl (Y.extract rfl rfl rfl) ?_
  refine TL.val rfl rfl rfl (Y.extract rfl rfl rfl) ?_
  refine TL.val rfl rfl rfl (Y.extract rfl rfl rfl) ?_
  refine TL.val rfl rfl rfl (Y.assign rfl rfl) ?_
  refine TL.val rfl rfl rfl (Y.assign rfl rfl) ?_
  refine TL.val rfl rfl rfl (Y.assign rfl rfl) ?_
  refine TL.nil ?_
  refine TQ.next ?_
  refine TC.ret ?_
  refine TQ.block_ret ?_
  refine TQ.then_ret ?_
  refine TQ.retE (resL rfl (Res.tmp rfl (Res.tmp rfl (Res.tmp rfl Res.nil)))) (⟨rfl, rfl⟩) ?_
  exact ett

theorem H_ck_no (kd : UInt32) (hF : Formed l kd) (hkd : kd = 3) (ht : n32 l 0 = S.tag) (hsec : S.secret.length ≤ 140737488351232) (hc : l.drop 8 = cookieB (S.clocked now) (n32 l 8) (n32 l 12)) (h0 : S.state ≠ 0) (h3 : S.state ≠ 3 ∨ S.other ≠ n32 l 8) (L : List SA) : Fn Try.prog 12 [pt b 0, .slice a n cap, vI now] (aB b p S :: SA.rds 1 (.slice a n cap) n (l.map v8) :: aS p (S.clocked now) :: L) (fun v L' => v = noOut 9 ∧ L' = aB b p (S.clocked now) :: aS p (S.clocked now) :: SA.rds 1 (.slice a n cap) n (l.map v8) :: L) := by
  have hlen := hF.len
  have hl1 : l.length = 44 := by have := hF.fits; subst hkd; simp [fitsB] at this; omega
  refine Fn.of (N := 160) Try.func12 rfl rfl ?_
  intro Xh
  refine TC.seq ?_
  refine TC.region ?_
  refine TL.val rfl rfl rfl (Y.assign rfl rfl) ?_
  refine TL.val rfl rfl rfl (Y.assign rfl rfl) ?_
  refine TL.val rfl rfl rfl (Y.assign rfl rfl) ?_
  refine TL.nil ?_
  refine TQ.next ?_
  refine TC.seq ?_
  refine TC.seq ?_
  refine TC.region ?_
  refine TL.val rfl rfl rfl (Y.move rfl rfl) ?_
  refine TL.val rfl rfl rfl (by first | exact Y.eqNilP rfl Try.underlying26 rfl rfl | exact Y.eqNil0 rfl Try.underlying26 rfl rfl) ?_
  refine TL.nil ?_
  refine TQ.next ?_
  refine TC.cond_f rfl ?_
  refine TC.skip ?_
  refine TQ.next ?_
  refine TC.seq ?_
  refine TC.region ?_
  refine TL.val rfl rfl rfl (Y.move rfl rfl) ?_
  refine TL.val rfl rfl rfl (Y.move rfl rfl) ?_
  refine TL.val rfl rfl rfl (Y.nilCheck rfl rfl) ?_
  refine TL.val rfl rfl rfl (by first | exact Y.fieldAddrJ rfl fo68_11 rfl nqq | exact Y.fieldAddr rfl fo68_11 rfl nqq) ?_
  refine TL.val rfl rfl rfl (Y.load rfl sc2 rfl celN) ?_
  refine TL.as (vI S.clock) (by rfl) ?_
  refine TL.val rfl rfl rfl (Y.move rfl rfl) ?_
  refine TL.val rfl rfl rfl (Y.maxI rfl rfl rfl) ?_
  refine TL.as (vI (max S.clock now)) (by rfl) ?_
  refine TL.val rfl rfl rfl (Y.nilCheck rfl rfl) ?_
  refine TL.val rfl rfl rfl (by first | exact Y.fieldAddrJ rfl fo68_11 rfl nqq | exact Y.fieldAddr rfl fo68_11 rfl nqq) ?_
  refine TL.eff0 rfl rfl (X.store (cs' := asC p (S.clocked now)) rfl (by kernel_rfl) rfl rfl rfl pul (by show 11 < 17; decide) rfl) ?_
  rintro _ _ rfl
  refine TL.nil ?_
  refine TQ.next ?_
  refine TC.seq ?_
  refine TC.region ?_
  refine TL.val rfl rfl rfl (Y.move rfl rfl) ?_
  refine TL.eff rfl rfl rfl (X.call rfl Try.func26 (by kernel_rfl) rfl rfl (Fn.preE (by repeat first | (with_reducible apply Ent.refl) | (apply Ent.cons; case h => first | (with_reducible (repeat first | apply Pull.here | apply Pull.there); done) | (repeat first | apply Pull.here | apply Pull.there))) (rd.New_fn a n cap l hn hl _))) ?_
  rintro _ _ ⟨p28, rfl, rfl⟩
  refine TL.val rfl rfl rfl (Y.assign rfl rfl) ?_
  refine TL.nil ?_
  refine TQ.next ?_
  refine TC.seq ?_
  refine TC.region ?_
  refine TL.val rfl rfl rfl (Y.move rfl rfl) ?_
  refine TL.eff rfl rfl rfl (X.call rfl Try.func27 (by kernel_rfl) rfl rfl (Fn.preE (by repeat first | (with_reducible apply Ent.refl) | (apply Ent.cons; case h => first | (with_reducible (repeat first | apply Pull.here | apply Pull.there); done) | (repeat first | apply Pull.here | apply Pull.there))) (u32_ok p28 l (by omega) _))) ?_
  rintro _ _ ⟨rfl, rfl⟩
  rw [show num (l.take 4) = n32 l 0 from rfl]
  refine TL.val rfl rfl rfl (Y.move rfl rfl) ?_
  refine TL.eff rfl rfl rfl (X.call rfl Try.func27 (by kernel_rfl) rfl rfl (Fn.preE (by repeat first | (with_reducible apply Ent.refl) | (apply Ent.cons; case h => first | (with_reducible (repeat first | apply Pull.here | apply Pull.there); done) | (repeat first | apply Pull.here | apply Pull.there))) (u32_ok p28 (l.drop 4) (by rw [List.length_drop]; omega) _))) ?_
  rintro _ _ ⟨rfl, rfl⟩
  rw [show num ((l.drop 4).take 4) = n32 l 4 from rfl, List.drop_drop]
  refine TL.val rfl rfl rfl (Y.assign rfl rfl) ?_
  refine TL.val rfl rfl rfl (Y.assign rfl rfl) ?_
  refine TL.nil ?_
  refine TQ.next ?_
  refine TC.seq ?_
  refine TC.region ?_
  refine TL.val rfl rfl rfl (Y.move rfl rfl) ?_
  refine TL.val rfl rfl rfl (Y.bin rfl rfl rfl (br_shr32 (n := 24))) ?_
  refine TL.as (v32 kd) (by (rw [← hF.kind])) ?_
  refine TL.val rfl rfl rfl (Y.assign rfl rfl) ?_
  refine TL.nil ?_
  refine TQ.next ?_
  refine TC.seq ?_
  refine TC.seq ?_
  refine TC.region ?_
  refine TL.val rfl rfl rfl (Y.move rfl rfl) ?_
  refine TL.eff rfl rfl rfl (X.call rfl Try.func28 (by kernel_rfl) rfl rfl (Fn.preE (by repeat first | (with_reducible apply Ent.refl) | (apply Ent.cons; case h => first | (with_reducible (repeat first | apply Pull.here | apply Pull.there); done) | (repeat first | apply Pull.here | apply Pull.there))) (rd.Bad_fn _ _ _ _))) ?_
  rintro _ _ ⟨rfl, rfl⟩
  refine TL.val rfl rfl rfl (Y.move rfl rfl) ?_
  refine TL.valG rfl rfl rfl (Y.move rfl rfl) ?_
  refine TL.valG rfl rfl rfl (Y.bin rfl rfl rfl (br_and32 (y := 16777215))) ?_
  refine TL.valG rfl rfl rfl (Y.bin rfl rfl rfl (br_ne32 (y := 0))) ?_
  refine TL.is false (by (simpa using hF.low)) ?_
  refine TL.val rfl rfl rfl (Y.pick_f rfl rfl rfl) ?_
  refine TL.val rfl rfl rfl (Y.move rfl rfl) ?_
  refine TL.valG rfl rfl rfl (Y.move rfl rfl) ?_
  refine TL.valG rfl rfl rfl (Y.conv rfl Try.underlying22 Try.underlying5 rfl (cv_32_8)) ?_
  refine TL.valG rfl rfl rfl (Y.move rfl rfl) ?_
  refine TL.effG rfl rfl rfl (X.call rfl Try.func30 (by kernel_rfl) rfl rfl (Fn.preE (by repeat first | (with_reducible apply Ent.refl) | (apply Ent.cons; case h => first | (with_reducible (repeat first | apply Pull.here | apply Pull.there); done) | (repeat first | apply Pull.here | apply Pull.there))) (rd.Left_fn _ _ _ _))) ?_
  rintro _ _ ⟨rfl, rfl⟩
  refine TL.as (vN (l.length - 8)) (by (rw [List.length_drop])) ?_
  refine TL.effG rfl rfl rfl (X.call rfl Try.func29 (by kernel_rfl) rfl rfl (Fn.preE (by repeat first | (with_reducible apply Ent.refl) | (apply Ent.cons; case h => first | (with_reducible (repeat first | apply Pull.here | apply Pull.there); done) | (repeat first | apply Pull.here | apply Pull.there))) (fits_fn kd.toUInt8 (l.length - 8) (by omega) _))) ?_
  rintro _ _ ⟨rfl, rfl⟩
  refine TL.valG rfl rfl rfl (Y.not rfl rfl) ?_
  refine TL.is false (by (rw [hF.fits]; rfl)) ?_
  refine TL.val rfl rfl rfl (Y.pick_f rfl rfl rfl) ?_
  refine TL.val rfl rfl rfl (Y.move rfl rfl) ?_
  refine TL.valG rfl rfl rfl (Y.move rfl rfl) ?_
  refine TL.valG rfl rfl rfl (Y.bin rfl rfl rfl (br_eq32 (y := 0))) ?_
  refine TL.valG rfl rfl rfl (Y.move rfl rfl) ?_
  refine TL.valG rfl rfl rfl (Y.bin rfl rfl rfl (br_eq32 (y := 1))) ?_
  refine TL.valG rfl rfl rfl (Y.neBool rfl Try.underlying4 rfl rfl) ?_
  refine TL.is false (by (have := hF.tagged; by_cases e1 : n32 l 0 = 0 <;> by_cases e2 : kd = 1 <;> simp_all <;> rw [beq_eq_false_iff_ne.2 e1, beq_eq_false_iff_ne.2 e2])) ?_
  refine TL.val rfl rfl rfl (Y.pick_f rfl rfl rfl) ?_
  refine TL.nil ?_
  refine TQ.next ?_
  refine TC.cond_f rfl ?_
  refine TC.skip ?_
  refine TQ.next ?_
  refine TC.seq ?_
  refine TC.seq ?_
  refine TC.region ?_
  refine TL.val rfl rfl rfl (Y.move rfl rfl) ?_
  refine TL.val rfl rfl rfl (Y.bin rfl rfl rfl (br_leN (n := 2))) ?_
  refine TL.is false (by (subst hkd; decide)) ?_
  refine TL.val rfl rfl rfl (Y.move rfl rfl) ?_
  refine TL.not rfl rfl rfl ?_
  refine TL.not rfl rfl rfl ?_
  refine TL.not rfl rfl rfl ?_
  refine TL.not rfl rfl rfl ?_
  refine TL.not rfl rfl rfl ?_
  refine TL.val rfl rfl rfl (Y.pick_f rfl rfl rfl) ?_
  refine TL.nil ?_
  refine TQ.next ?_
  refine TC.cond_f rfl ?_
  refine TC.skip ?_
  refine TQ.next ?_
  refine TC.seq ?_
  refine TC.block ?_
  refine TC.seq ?_
  refine TC.region ?_
  refine TL.val rfl rfl rfl (Y.move rfl rfl) ?_
  refine TL.val rfl rfl rfl (Y.bin rfl rfl rfl (br_eq32 (y := 1))) ?_
  refine TL.is false (by (subst hkd; decide)) ?_
  refine TL.val rfl rfl rfl (Y.assign rfl rfl) ?_
  refine TL.nil ?_
  refine TQ.next ?_
  refine TC.cond_f rfl ?_
  refine TC.seq ?_
  refine TC.region ?_
  refine TL.val rfl rfl rfl (Y.move rfl rfl) ?_
  refine TL.val rfl rfl rfl (Y.move rfl rfl) ?_
  refine TL.val rfl rfl rfl (Y.nilCheck rfl rfl) ?_
  refine TL.val rfl rfl rfl (by first | exact Y.fieldAddrJ rfl fo68_0 rfl nqq | exact Y.fieldAddr rfl fo68_0 rfl nqq) ?_
  refine TL.val rfl rfl rfl (Y.load rfl sc22 rfl cel32) ?_
  refine TL.as (v32 S.tag) (by rfl) ?_
  refine TL.val rfl rfl rfl (Y.bin rfl rfl rfl (br_ne32)) ?_
  refine TL.is false (by (simpa using ht)) ?_
  refine TL.val rfl rfl rfl (Y.assign rfl rfl) ?_
  refine TL.nil ?_
  refine TQ.next ?_
  refine TC.cond_f rfl ?_
  refine TC.seq ?_
  refine TC.region ?_
  refine TL.val rfl rfl rfl (Y.move rfl rfl) ?_
  refine TL.val rfl rfl rfl (Y.bin rfl rfl rfl (br_eq32 (y := 2))) ?_
  refine TL.is false (by (subst hkd; decide)) ?_
  refine TL.val rfl rfl rfl (Y.assign rfl rfl) ?_
  refine TL.nil ?_
  refine TQ.next ?_
  refine TC.cond_f rfl ?_
  refine TC.seq ?_
  refine TC.region ?_
  refine TL.val rfl rfl rfl (Y.move rfl rfl) ?_
  refine TL.val rfl rfl rfl (Y.bin rfl rfl rfl (br_eq32 (y := 3))) ?_
  refine TL.is true (by (subst hkd; decide)) ?_
  refine TL.val rfl rfl rfl (Y.assign rfl rfl) ?_
  refine TL.nil ?_
  refine TQ.next ?_
  refine TC.cond_t rfl ?_
  refine TC.seq ?_
  refine TC.region ?_
  refine TL.val rfl rfl rfl (Y.move rfl rfl) ?_
  refine TL.val rfl rfl rfl (Y.move rfl rfl) ?_
  refine TL.eff rfl rfl rfl (X.call rfl Try.func33 (by kernel_rfl) rfl rfl (Fn.preE (by repeat first | (with_reducible apply Ent.refl) | (apply Ent.cons; case h => first | (with_reducible (repeat first | apply Pull.here | apply Pull.there); done) | (repeat first | apply Pull.here | apply Pull.there))) (cookied_no b p (S.clocked now) p28 (l.drop 8) (by rw [List.length_drop]; omega) hsec (by rw [List.drop_drop]; exact hc) h0 h3 _))) ?_
  rintro _ _ ⟨rfl, rfl⟩
  refine TL.val rfl rfl rfl (Y.extract rfl rfl rfl) ?_
  refine TL.val rfl rfl rfl (Y.extract rfl rfl rfl) ?_
  refine TL.val rfl rfl rfl (Y.extract rfl rfl rfl) ?_
  refine TL.val rfl rfl rfl (Y.assign rfl rfl) ?_
  refine TL.val rfl rfl rfl (Y.assign rfl rfl) ?_
  refine TL.val rfl rfl rfl (Y.assign rfl rfl) ?_
  refine TL.nil ?_
  refine TQ.next ?_
  refine TC.ret ?_
  refine TQ.block_ret ?_
  refine TQ.then_ret ?_
  refine TQ.retE (resL rfl (Res.tmp rfl (Res.tmp rfl (Res.tmp rfl Res.nil)))) (⟨rfl, rfl⟩) ?_
  exact ett

theorem H_ck_open (kd : UInt32) (hF : Formed l kd) (hkd : kd = 3) (ht : n32 l 0 = S.tag) (hsec : S.secret.length ≤ 140737488351232) (hc : l.drop 8 = cookieB (S.clocked now) (n32 l 8) (n32 l 12)) (h0 : S.state = 0) (L : List SA) : Fn Try.prog 12 [pt b 0, .slice a n cap, vI now] (aB b p S :: SA.rds 1 (.slice a n cap) n (l.map v8) :: aS p (S.clocked now) :: L) (fun v L' => ∃ o : Sl Bs, v = .tuple #[o.v, .slice none 0 0, vN 0] ∧ o.l.map (·.l) = [pkt (n32 l 8) 4] ∧ L' = SA.dat o :: aB b p ((S.clocked now).opened (n32 l 8) (n32 l 12)) :: aS p (S.clocked now) :: SA.rds 1 (.slice a n cap) n (l.map v8) :: L) := by
  have hlen := hF.len
  have hl1 : l.length = 44 := by have := hF.fits; subst hkd; simp [fitsB] at this; omega
  refine Fn.of (N := 160) Try.func12 rfl rfl ?_
  intro Xh
  refine TC.seq ?_
  refine TC.region ?_
  refine TL.val rfl rfl rfl (Y.assign rfl rfl) ?_
  refine TL.val rfl rfl rfl (Y.assign rfl rfl) ?_
  refine TL.val rfl rfl rfl (Y.assign rfl rfl) ?_
  refine TL.nil ?_
  refine TQ.next ?_
  refine TC.seq ?_
  refine TC.seq ?_
  refine TC.region ?_
  refine TL.val rfl rfl rfl (Y.move rfl rfl) ?_
  refine TL.val rfl rfl rfl (by first | exact Y.eqNilP rfl Try.underlying26 rfl rfl | exact Y.eqNil0 rfl Try.underlying26 rfl rfl) ?_
  refine TL.nil ?_
  refine TQ.next ?_
  refine TC.cond_f rfl ?_
  refine TC.skip ?_
  refine TQ.next ?_
  refine TC.seq ?_
  refine TC.region ?_
  refine TL.val rfl rfl rfl (Y.move rfl rfl) ?_
  refine TL.val rfl rfl rfl (Y.move rfl rfl) ?_
  refine TL.val rfl rfl rfl (Y.nilCheck rfl rfl) ?_
  refine TL.val rfl rfl rfl (by first | exact Y.fieldAddrJ rfl fo68_11 rfl nqq | exact Y.fieldAddr rfl fo68_11 rfl nqq) ?_
  refine TL.val rfl rfl rfl (Y.load rfl sc2 rfl celN) ?_
  refine TL.as (vI S.clock) (by rfl) ?_
  refine TL.val rfl rfl rfl (Y.move rfl rfl) ?_
  refine TL.val rfl rfl rfl (Y.maxI rfl rfl rfl) ?_
  refine TL.as (vI (max S.clock now)) (by rfl) ?_
  refine TL.val rfl rfl rfl (Y.nilCheck rfl rfl) ?_
  refine TL.val rfl rfl rfl (by first | exact Y.fieldAddrJ rfl fo68_11 rfl nqq | exact Y.fieldAddr rfl fo68_11 rfl nqq) ?_
  refine TL.eff0 rfl rfl (X.store (cs' := asC p (S.clocked now)) rfl (by kernel_rfl) rfl rfl rfl pul (by show 11 < 17; decide) rfl) ?_
  rintro _ _ rfl
  refine TL.nil ?_
  refine TQ.next ?_
  refine TC.seq ?_
  refine TC.region ?_
  refine TL.val rfl rfl rfl (Y.move rfl rfl) ?_
  refine TL.eff rfl rfl rfl (X.call rfl Try.func26 (by kernel_rfl) rfl rfl (Fn.preE (by repeat first | (with_reducible apply Ent.refl) | (apply Ent.cons; case h => first | (with_reducible (repeat first | apply Pull.here | apply Pull.there); done) | (repeat first | apply Pull.here | apply Pull.there))) (rd.New_fn a n cap l hn hl _))) ?_
  rintro _ _ ⟨p28, rfl, rfl⟩
  refine TL.val rfl rfl rfl (Y.assign rfl rfl) ?_
  refine TL.nil ?_
  refine TQ.next ?_
  refine TC.seq ?_
  refine TC.region ?_
  refine TL.val rfl rfl rfl (Y.move rfl rfl) ?_
  refine TL.eff rfl rfl rfl (X.call rfl Try.func27 (by kernel_rfl) rfl rfl (Fn.preE (by repeat first | (with_reducible apply Ent.refl) | (apply Ent.cons; case h => first | (with_reducible (repeat first | apply Pull.here | apply Pull.there); done) | (repeat first | apply Pull.here | apply Pull.there))) (u32_ok p28 l (by omega) _))) ?_
  rintro _ _ ⟨rfl, rfl⟩
  rw [show num (l.take 4) = n32 l 0 from rfl]
  refine TL.val rfl rfl rfl (Y.move rfl rfl) ?_
  refine TL.eff rfl rfl rfl (X.call rfl Try.func27 (by kernel_rfl) rfl rfl (Fn.preE (by repeat first | (with_reducible apply Ent.refl) | (apply Ent.cons; case h => first | (with_reducible (repeat first | apply Pull.here | apply Pull.there); done) | (repeat first | apply Pull.here | apply Pull.there))) (u32_ok p28 (l.drop 4) (by rw [List.length_drop]; omega) _))) ?_
  rintro _ _ ⟨rfl, rfl⟩
  rw [show num ((l.drop 4).take 4) = n32 l 4 from rfl, List.drop_drop]
  refine TL.val rfl rfl rfl (Y.assign rfl rfl) ?_
  refine TL.val rfl rfl rfl (Y.assign rfl rfl) ?_
  refine TL.nil ?_
  refine TQ.next ?_
  refine TC.seq ?_
  refine TC.region ?_
  refine TL.val rfl rfl rfl (Y.move rfl rfl) ?_
  refine TL.val rfl rfl rfl (Y.bin rfl rfl rfl (br_shr32 (n := 24))) ?_
  refine TL.as (v32 kd) (by (rw [← hF.kind])) ?_
  refine TL.val rfl rfl rfl (Y.assign rfl rfl) ?_
  refine TL.nil ?_
  refine TQ.next ?_
  refine TC.seq ?_
  refine TC.seq ?_
  refine TC.region ?_
  refine TL.val rfl rfl rfl (Y.move rfl rfl) ?_
  refine TL.eff rfl rfl rfl (X.call rfl Try.func28 (by kernel_rfl) rfl rfl (Fn.preE (by repeat first | (with_reducible apply Ent.refl) | (apply Ent.cons; case h => first | (with_reducible (repeat first | apply Pull.here | apply Pull.there); done) | (repeat first | apply Pull.here | apply Pull.there))) (rd.Bad_fn _ _ _ _))) ?_
  rintro _ _ ⟨rfl, rfl⟩
  refine TL.val rfl rfl rfl (Y.move rfl rfl) ?_
  refine TL.valG rfl rfl rfl (Y.move rfl rfl) ?_
  refine TL.valG rfl rfl rfl (Y.bin rfl rfl rfl (br_and32 (y := 16777215))) ?_
  refine TL.valG rfl rfl rfl (Y.bin rfl rfl rfl (br_ne32 (y := 0))) ?_
  refine TL.is false (by (simpa using hF.low)) ?_
  refine TL.val rfl rfl rfl (Y.pick_f rfl rfl rfl) ?_
  refine TL.val rfl rfl rfl (Y.move rfl rfl) ?_
  refine TL.valG rfl rfl rfl (Y.move rfl rfl) ?_
  refine TL.valG rfl rfl rfl (Y.conv rfl Try.underlying22 Try.underlying5 rfl (cv_32_8)) ?_
  refine TL.valG rfl rfl rfl (Y.move rfl rfl) ?_
  refine TL.effG rfl rfl rfl (X.call rfl Try.func30 (by kernel_rfl) rfl rfl (Fn.preE (by repeat first | (with_reducible apply Ent.refl) | (apply Ent.cons; case h => first | (with_reducible (repeat first | apply Pull.here | apply Pull.there); done) | (repeat first | apply Pull.here | apply Pull.there))) (rd.Left_fn _ _ _ _))) ?_
  rintro _ _ ⟨rfl, rfl⟩
  refine TL.as (vN (l.length - 8)) (by (rw [List.length_drop])) ?_
  refine TL.effG rfl rfl rfl (X.call rfl Try.func29 (by kernel_rfl) rfl rfl (Fn.preE (by repeat first | (with_reducible apply Ent.refl) | (apply Ent.cons; case h => first | (with_reducible (repeat first | apply Pull.here | apply Pull.there); done) | (repeat first | apply Pull.here | apply Pull.there))) (fits_fn kd.toUInt8 (l.length - 8) (by omega) _))) ?_
  rintro _ _ ⟨rfl, rfl⟩
  refine TL.valG rfl rfl rfl (Y.not rfl rfl) ?_
  refine TL.is false (by (rw [hF.fits]; rfl)) ?_
  refine TL.val rfl rfl rfl (Y.pick_f rfl rfl rfl) ?_
  refine TL.val rfl rfl rfl (Y.move rfl rfl) ?_
  refine TL.valG rfl rfl rfl (Y.move rfl rfl) ?_
  refine TL.valG rfl rfl rfl (Y.bin rfl rfl rfl (br_eq32 (y := 0))) ?_
  refine TL.valG rfl rfl rfl (Y.move rfl rfl) ?_
  refine TL.valG rfl rfl rfl (Y.bin rfl rfl rfl (br_eq32 (y := 1))) ?_
  refine TL.valG rfl rfl rfl (Y.neBool rfl Try.underlying4 rfl rfl) ?_
  refine TL.is false (by (have := hF.tagged; by_cases e1 : n32 l 0 = 0 <;> by_cases e2 : kd = 1 <;> simp_all <;> rw [beq_eq_false_iff_ne.2 e1, beq_eq_false_iff_ne.2 e2])) ?_
  refine TL.val rfl rfl rfl (Y.pick_f rfl rfl rfl) ?_
  refine TL.nil ?_
  refine TQ.next ?_
  refine TC.cond_f rfl ?_
  refine TC.skip ?_
  refine TQ.next ?_
  refine TC.seq ?_
  refine TC.seq ?_
  refine TC.region ?_
  refine TL.val rfl rfl rfl (Y.move rfl rfl) ?_
  refine TL.val rfl rfl rfl (Y.bin rfl rfl rfl (br_leN (n := 2))) ?_
  refine TL.is false (by (subst hkd; decide)) ?_
  refine TL.val rfl rfl rfl (Y.move rfl rfl) ?_
  refine TL.not rfl rfl rfl ?_
  refine TL.not rfl rfl rfl ?_
  refine TL.not rfl rfl rfl ?_
  refine TL.not rfl rfl rfl ?_
  refine TL.not rfl rfl rfl ?_
  refine TL.val rfl rfl rfl (Y.pick_f rfl rfl rfl) ?_
  refine TL.nil ?_
  refine TQ.next ?_
  refine TC.cond_f rfl ?_
  refine TC.skip ?_
  refine TQ.next ?_
  refine TC.seq ?_
  refine TC.block ?_
  refine TC.seq ?_
  refine TC.region ?_
  refine TL.val rfl rfl rfl (Y.move rfl rfl) ?_
  refine TL.val rfl rfl rfl (Y.bin rfl rfl rfl (br_eq32 (y := 1))) ?_
  refine TL.is false (by (subst hkd; decide)) ?_
  refine TL.val rfl rfl rfl (Y.assign rfl rfl) ?_
  refine TL.nil ?_
  refine TQ.next ?_
  refine TC.cond_f rfl ?_
  refine TC.seq ?_
  refine TC.region ?_
  refine TL.val rfl rfl rfl (Y.move rfl rfl) ?_
  refine TL.val rfl rfl rfl (Y.move rfl rfl) ?_
  refine TL.val rfl rfl rfl (Y.nilCheck rfl rfl) ?_
  refine TL.val rfl rfl rfl (by first | exact Y.fieldAddrJ rfl fo68_0 rfl nqq | exact Y.fieldAddr rfl fo68_0 rfl nqq) ?_
  refine TL.val rfl rfl rfl (Y.load rfl sc22 rfl cel32) ?_
  refine TL.as (v32 S.tag) (by rfl) ?_
  refine TL.val rfl rfl rfl (Y.bin rfl rfl rfl (br_ne32)) ?_
  refine TL.is false (by (simpa using ht)) ?_
  refine TL.val rfl rfl rfl (Y.assign rfl rfl) ?_
  refine TL.nil ?_
  refine TQ.next ?_
  refine TC.cond_f rfl ?_
  refine TC.seq ?_
  refine TC.region ?_
  refine TL.val rfl rfl rfl (Y.move rfl rfl) ?_
  refine TL.val rfl rfl rfl (Y.bin rfl rfl rfl (br_eq32 (y := 2))) ?_
  refine TL.is false (by (subst hkd; decide)) ?_
  refine TL.val rfl rfl rfl (Y.assign rfl rfl) ?_
  refine TL.nil ?_
  refine TQ.next ?_
  refine TC.cond_f rfl ?_
  refine TC.seq ?_
  refine TC.region ?_
  refine TL.val rfl rfl rfl (Y.move rfl rfl) ?_
  refine TL.val rfl rfl rfl (Y.bin rfl rfl rfl (br_eq32 (y := 3))) ?_
  refine TL.is true (by (subst hkd; decide)) ?_
  refine TL.val rfl rfl rfl (Y.assign rfl rfl) ?_
  refine TL.nil ?_
  refine TQ.next ?_
  refine TC.cond_t rfl ?_
  refine TC.seq ?_
  refine TC.region ?_
  refine TL.val rfl rfl rfl (Y.move rfl rfl) ?_
  refine TL.val rfl rfl rfl (Y.move rfl rfl) ?_
  refine TL.eff rfl rfl rfl (X.call rfl Try.func33 (by kernel_rfl) rfl rfl (Fn.preE (by repeat first | (with_reducible apply Ent.refl) | (apply Ent.cons; case h => first | (with_reducible (repeat first | apply Pull.here | apply Pull.there); done) | (repeat first | apply Pull.here | apply Pull.there))) (cookied_open b p (S.clocked now) p28 (l.drop 8) (by rw [List.length_drop]; omega) hsec (by rw [List.drop_drop]; exact hc) h0 _))) ?_
  rintro _ _ ⟨o, rfl, ho, rfl⟩
  simp only [List.drop_drop] at ho ⊢
  refine TL.val rfl rfl rfl (Y.extract rfl rfl rfl) ?_
  refine TL.val rfl rfl rfl (Y.extract rfl rfl rfl) ?_
  refine TL.val rfl rfl rfl (Y.extract rfl rfl rfl) ?_
  refine TL.val rfl rfl rfl (Y.assign rfl rfl) ?_
  refine TL.val rfl rfl rfl (Y.assign rfl rfl) ?_
  refine TL.val rfl rfl rfl (Y.assign rfl rfl) ?_
  refine TL.nil ?_
  refine TQ.next ?_
  refine TC.ret ?_
  refine TQ.block_ret ?_
  refine TQ.then_ret ?_
  refine TQ.retE (resL rfl (Res.tmp rfl (Res.tmp rfl (Res.tmp rfl Res.nil)))) (⟨o, rfl, ho, rfl⟩) ?_
  exact ett

theorem H_ck_again (kd : UInt32) (hF : Formed l kd) (hkd : kd = 3) (ht : n32 l 0 = S.tag) (hsec : S.secret.length ≤ 140737488351232) (hc : l.drop 8 = cookieB (S.clocked now) (n32 l 8) (n32 l 12)) (h3 : S.state = 3) (ho : S.other = n32 l 8) (L : List SA) : Fn Try.prog 12 [pt b 0, .slice a n cap, vI now] (aB b p S :: SA.rds 1 (.slice a n cap) n (l.map v8) :: aS p (S.clocked now) :: L) (fun v L' => ∃ o : Sl Bs, v = .tuple #[o.v, .slice none 0 0, vN 0] ∧ o.l.map (·.l) = [pkt S.other 4] ∧ L' = SA.dat o :: aB b p (S.clocked now) :: aS p (S.clocked now) :: SA.rds 1 (.slice a n cap) n (l.map v8) :: L) := by
  have hlen := hF.len
  have hl1 : l.length = 44 := by have := hF.fits; subst hkd; simp [fitsB] at this; omega
  refine Fn.of (N := 160) Try.func12 rfl rfl ?_
  intro Xh
  refine TC.seq ?_
  refine TC.region ?_
  refine TL.val rfl rfl rfl (Y.assign rfl rfl) ?_
  refine TL.val rfl rfl rfl (Y.assign rfl rfl) ?_
  refine TL.val rfl rfl rfl (Y.assign rfl rfl) ?_
  refine TL.nil ?_
  refine TQ.next ?_
  refine TC.seq ?_
  refine TC.seq ?_
  refine TC.region ?_
  refine TL.val rfl rfl rfl (Y.move rfl rfl) ?_
  refine TL.val rfl rfl rfl (by first | exact Y.eqNilP rfl Try.underlying26 rfl rfl | exact Y.eqNil0 rfl Try.underlying26 rfl rfl) ?_
  refine TL.nil ?_
  refine TQ.next ?_
  refine TC.cond_f rfl ?_
  refine TC.skip ?_
  refine TQ.next ?_
  refine TC.seq ?_
  refine TC.region ?_
  refine TL.val rfl rfl rfl (Y.move rfl rfl) ?_
  refine TL.val rfl rfl rfl (Y.move rfl rfl) ?_
  refine TL.val rfl rfl rfl (Y.nilCheck rfl rfl) ?_
  refine TL.val rfl rfl rfl (by first | exact Y.fieldAddrJ rfl fo68_11 rfl nqq | exact Y.fieldAddr rfl fo68_11 rfl nqq) ?_
  refine TL.val rfl rfl rfl (Y.load rfl sc2 rfl celN) ?_
  refine TL.as (vI S.clock) (by rfl) ?_
  refine TL.val rfl rfl rfl (Y.move rfl rfl) ?_
  refine TL.val rfl rfl rfl (Y.maxI rfl rfl rfl) ?_
  refine TL.as (vI (max S.clock now)) (by rfl) ?_
  refine TL.val rfl rfl rfl (Y.nilCheck rfl rfl) ?_
  refine TL.val rfl rfl rfl (by first | exact Y.fieldAddrJ rfl fo68_11 rfl nqq | exact Y.fieldAddr rfl fo68_11 rfl nqq) ?_
  refine TL.eff0 rfl rfl (X.store (cs' := asC p (S.clocked now)) rfl (by kernel_rfl) rfl rfl rfl pul (by show 11 < 17; decide) rfl) ?_
  rintro _ _ rfl
  refine TL.nil ?_
  refine TQ.next ?_
  refine TC.seq ?_
  refine TC.region ?_
  refine TL.val rfl rfl rfl (Y.move rfl rfl) ?_
  refine TL.eff rfl rfl rfl (X.call rfl Try.func26 (by kernel_rfl) rfl rfl (Fn.preE (by repeat first | (with_reducible apply Ent.refl) | (apply Ent.cons; case h => first | (with_reducible (repeat first | apply Pull.here | apply Pull.there); done) | (repeat first | apply Pull.here | apply Pull.there))) (rd.New_fn a n cap l hn hl _))) ?_
  rintro _ _ ⟨p28, rfl, rfl⟩
  refine TL.val rfl rfl rfl (Y.assign rfl rfl) ?_
  refine TL.nil ?_
  refine TQ.next ?_
  refine TC.seq ?_
  refine TC.region ?_
  refine TL.val rfl rfl rfl (Y.move rfl rfl) ?_
  refine TL.eff rfl rfl rfl (X.call rfl Try.func27 (by kernel_rfl) rfl rfl (Fn.preE (by repeat first | (with_reducible apply Ent.refl) | (apply Ent.cons; case h => first | (with_reducible (repeat first | apply Pull.here | apply Pull.there); done) | (repeat first | apply Pull.here | apply Pull.there))) (u32_ok p28 l (by omega) _))) ?_
  rintro _ _ ⟨rfl, rfl⟩
  rw [show num (l.take 4) = n32 l 0 from rfl]
  refine TL.val rfl rfl rfl (Y.move rfl rfl) ?_
  refine TL.eff rfl rfl rfl (X.call rfl Try.func27 (by kernel_rfl) rfl rfl (Fn.preE (by repeat first | (with_reducible apply Ent.refl) | (apply Ent.cons; case h => first | (with_reducible (repeat first | apply Pull.here | apply Pull.there); done) | (repeat first | apply Pull.here | apply Pull.there))) (u32_ok p28 (l.drop 4) (by rw [List.length_drop]; omega) _))) ?_
  rintro _ _ ⟨rfl, rfl⟩
  rw [show num ((l.drop 4).take 4) = n32 l 4 from rfl, List.drop_drop]
  refine TL.val rfl rfl rfl (Y.assign rfl rfl) ?_
  refine TL.val rfl rfl rfl (Y.assign rfl rfl) ?_
  refine TL.nil ?_
  refine TQ.next ?_
  refine TC.seq ?_
  refine TC.region ?_
  refine TL.val rfl rfl rfl (Y.move rfl rfl) ?_
  refine TL.val rfl rfl rfl (Y.bin rfl rfl rfl (br_shr32 (n := 24))) ?_
  refine TL.as (v32 kd) (by (rw [← hF.kind])) ?_
  refine TL.val rfl rfl rfl (Y.assign rfl rfl) ?_
  refine TL.nil ?_
  refine TQ.next ?_
  refine TC.seq ?_
  refine TC.seq ?_
  refine TC.region ?_
  refine TL.val rfl rfl rfl (Y.move rfl rfl) ?_
  refine TL.eff rfl rfl rfl (X.call rfl Try.func28 (by kernel_rfl) rfl rfl (Fn.preE (by repeat first | (with_reducible apply Ent.refl) | (apply Ent.cons; case h => first | (with_reducible (repeat first | apply Pull.here | apply Pull.there); done) | (repeat first | apply Pull.here | apply Pull.there))) (rd.Bad_fn _ _ _ _))) ?_
  rintro _ _ ⟨rfl, rfl⟩
  refine TL.val rfl rfl rfl (Y.move rfl rfl) ?_
  refine TL.valG rfl rfl rfl (Y.move rfl rfl) ?_
  refine TL.valG rfl rfl rfl (Y.bin rfl rfl rfl (br_and32 (y := 16777215))) ?_
  refine TL.valG rfl rfl rfl (Y.bin rfl rfl rfl (br_ne32 (y := 0))) ?_
  refine TL.is false (by (simpa using hF.low)) ?_
  refine TL.val rfl rfl rfl (Y.pick_f rfl rfl rfl) ?_
  refine TL.val rfl rfl rfl (Y.move rfl rfl) ?_
  refine TL.valG rfl rfl rfl (Y.move rfl rfl) ?_
  refine TL.valG rfl rfl rfl (Y.conv rfl Try.underlying22 Try.underlying5 rfl (cv_32_8)) ?_
  refine TL.valG rfl rfl rfl (Y.move rfl rfl) ?_
  refine TL.effG rfl rfl rfl (X.call rfl Try.func30 (by kernel_rfl) rfl rfl (Fn.preE (by repeat first | (with_reducible apply Ent.refl) | (apply Ent.cons; case h => first | (with_reducible (repeat first | apply Pull.here | apply Pull.there); done) | (repeat first | apply Pull.here | apply Pull.there))) (rd.Left_fn _ _ _ _))) ?_
  rintro _ _ ⟨rfl, rfl⟩
  refine TL.as (vN (l.length - 8)) (by (rw [List.length_drop])) ?_
  refine TL.effG rfl rfl rfl (X.call rfl Try.func29 (by kernel_rfl) rfl rfl (Fn.preE (by repeat first | (with_reducible apply Ent.refl) | (apply Ent.cons; case h => first | (with_reducible (repeat first | apply Pull.here | apply Pull.there); done) | (repeat first | apply Pull.here | apply Pull.there))) (fits_fn kd.toUInt8 (l.length - 8) (by omega) _))) ?_
  rintro _ _ ⟨rfl, rfl⟩
  refine TL.valG rfl rfl rfl (Y.not rfl rfl) ?_
  refine TL.is false (by (rw [hF.fits]; rfl)) ?_
  refine TL.val rfl rfl rfl (Y.pick_f rfl rfl rfl) ?_
  refine TL.val rfl rfl rfl (Y.move rfl rfl) ?_
  refine TL.valG rfl rfl rfl (Y.move rfl rfl) ?_
  refine TL.valG rfl rfl rfl (Y.bin rfl rfl rfl (br_eq32 (y := 0))) ?_
  refine TL.valG rfl rfl rfl (Y.move rfl rfl) ?_
  refine TL.valG rfl rfl rfl (Y.bin rfl rfl rfl (br_eq32 (y := 1))) ?_
  refine TL.valG rfl rfl rfl (Y.neBool rfl Try.underlying4 rfl rfl) ?_
  refine TL.is false (by (have := hF.tagged; by_cases e1 : n32 l 0 = 0 <;> by_cases e2 : kd = 1 <;> simp_all <;> rw [beq_eq_false_iff_ne.2 e1, beq_eq_false_iff_ne.2 e2])) ?_
  refine TL.val rfl rfl rfl (Y.pick_f rfl rfl rfl) ?_
  refine TL.nil ?_
  refine TQ.next ?_
  refine TC.cond_f rfl ?_
  refine TC.skip ?_
  refine TQ.next ?_
  refine TC.seq ?_
  refine TC.seq ?_
  refine TC.region ?_
  refine TL.val rfl rfl rfl (Y.move rfl rfl) ?_
  refine TL.val rfl rfl rfl (Y.bin rfl rfl rfl (br_leN (n := 2))) ?_
  refine TL.is false (by (subst hkd; decide)) ?_
  refine TL.val rfl rfl rfl (Y.move rfl rfl) ?_
  refine TL.not rfl rfl rfl ?_
  refine TL.not rfl rfl rfl ?_
  refine TL.not rfl rfl rfl ?_
  refine TL.not rfl rfl rfl ?_
  refine TL.not rfl rfl rfl ?_
  refine TL.val rfl rfl rfl (Y.pick_f rfl rfl rfl) ?_
  refine TL.nil ?_
  refine TQ.next ?_
  refine TC.cond_f rfl ?_
  refine TC.skip ?_
  refine TQ.next ?_
  refine TC.seq ?_
  refine TC.block ?_
  refine TC.seq ?_
  refine TC.region ?_
  refine TL.val rfl rfl rfl (Y.move rfl rfl) ?_
  refine TL.val rfl rfl rfl (Y.bin rfl rfl rfl (br_eq32 (y := 1))) ?_
  refine TL.is false (by (subst hkd; decide)) ?_
  refine TL.val rfl rfl rfl (Y.assign rfl rfl) ?_
  refine TL.nil ?_
  refine TQ.next ?_
  refine TC.cond_f rfl ?_
  refine TC.seq ?_
  refine TC.region ?_
  refine TL.val rfl rfl rfl (Y.move rfl rfl) ?_
  refine TL.val rfl rfl rfl (Y.move rfl rfl) ?_
  refine TL.val rfl rfl rfl (Y.nilCheck rfl rfl) ?_
  refine TL.val rfl rfl rfl (by first | exact Y.fieldAddrJ rfl fo68_0 rfl nqq | exact Y.fieldAddr rfl fo68_0 rfl nqq) ?_
  refine TL.val rfl rfl rfl (Y.load rfl sc22 rfl cel32) ?_
  refine TL.as (v32 S.tag) (by rfl) ?_
  refine TL.val rfl rfl rfl (Y.bin rfl rfl rfl (br_ne32)) ?_
  refine TL.is false (by (simpa using ht)) ?_
  refine TL.val rfl rfl rfl (Y.assign rfl rfl) ?_
  refine TL.nil ?_
  refine TQ.next ?_
  refine TC.cond_f rfl ?_
  refine TC.seq ?_
  refine TC.region ?_
  refine TL.val rfl rfl rfl (Y.move rfl rfl) ?_
  refine TL.val rfl rfl rfl (Y.bin rfl rfl rfl (br_eq32 (y := 2))) ?_
  refine TL.is false (by (subst hkd; decide)) ?_
  refine TL.val rfl rfl rfl (Y.assign rfl rfl) ?_
  refine TL.nil ?_
  refine TQ.next ?_
  refine TC.cond_f rfl ?_
  refine TC.seq ?_
  refine TC.region ?_
  refine TL.val rfl rfl rfl (Y.move rfl rfl) ?_
  refine TL.val rfl rfl rfl (Y.bin rfl rfl rfl (br_eq32 (y := 3))) ?_
  refine TL.is true (by (subst hkd; decide)) ?_
  refine TL.val rfl rfl rfl (Y.assign rfl rfl) ?_
  refine TL.nil ?_
  refine TQ.next ?_
  refine TC.cond_t rfl ?_
  refine TC.seq ?_
  refine TC.region ?_
  refine TL.val rfl rfl rfl (Y.move rfl rfl) ?_
  refine TL.val rfl rfl rfl (Y.move rfl rfl) ?_
  refine TL.eff rfl rfl rfl (X.call rfl Try.func33 (by kernel_rfl) rfl rfl (Fn.preE (by repeat first | (with_reducible apply Ent.refl) | (apply Ent.cons; case h => first | (with_reducible (repeat first | apply Pull.here | apply Pull.there); done) | (repeat first | apply Pull.here | apply Pull.there))) (cookied_again b p (S.clocked now) p28 (l.drop 8) (by rw [List.length_drop]; omega) hsec (by rw [List.drop_drop]; exact hc) h3 ho _))) ?_
  rintro _ _ ⟨o, rfl, ho, rfl⟩
  refine TL.val rfl rfl rfl (Y.extract rfl rfl rfl) ?_
  refine TL.val rfl rfl rfl (Y.extract rfl rfl rfl) ?_
  refine TL.val rfl rfl rfl (Y.extract rfl rfl rfl) ?_
  refine TL.val rfl rfl rfl (Y.assign rfl rfl) ?_
  refine TL.val rfl rfl rfl (Y.assign rfl rfl) ?_
  refine TL.val rfl rfl rfl (Y.assign rfl rfl) ?_
  refine TL.nil ?_
  refine TQ.next ?_
  refine TC.ret ?_
  refine TQ.block_ret ?_
  refine TQ.then_ret ?_
  refine TQ.retE (resL rfl (Res.tmp rfl (Res.tmp rfl (Res.tmp rfl Res.nil)))) (⟨o, rfl, by rw [ho]; rfl, rfl⟩) ?_
  exact ett

theorem H_cka_open (kd : UInt32) (hF : Formed l kd) (hkd : kd = 4) (ht : n32 l 0 = S.tag) (hs : S.state = 2) (L : List SA) : Fn Try.prog 12 [pt b 0, .slice a n cap, vI now] (aB b p S :: SA.rds 1 (.slice a n cap) n (l.map v8) :: L) (fun v L' => v = noOut 0 ∧ L' = aB b p ({ S.clocked now with state := 3, tset := false }) :: SA.rds 1 (.slice a n cap) n (l.map v8) :: L) := by
  have hlen := hF.len
  refine Fn.of (N := 160) Try.func12 rfl rfl ?_
  intro Xh
  refine TC.seq ?_
  refine TC.region ?_
  refine TL.val rfl rfl rfl (Y.assign rfl rfl) ?_
  refine TL.val rfl rfl rfl (Y.assign rfl rfl) ?_
  refine TL.val rfl rfl rfl (Y.assign rfl rfl) ?_
  refine TL.nil ?_
  refine TQ.next ?_
  refine TC.seq ?_
  refine TC.seq ?_
  refine TC.region ?_
  refine TL.val rfl rfl rfl (Y.move rfl rfl) ?_
  refine TL.val rfl rfl rfl (by first | exact Y.eqNilP rfl Try.underlying26 rfl rfl | exact Y.eqNil0 rfl Try.underlying26 rfl rfl) ?_
  refine TL.nil ?_
  refine TQ.next ?_
  refine TC.cond_f rfl ?_
  refine TC.skip ?_
  refine TQ.next ?_
  refine TC.seq ?_
  refine TC.region ?_
  refine TL.val rfl rfl rfl (Y.move rfl rfl) ?_
  refine TL.val rfl rfl rfl (Y.move rfl rfl) ?_
  refine TL.val rfl rfl rfl (Y.nilCheck rfl rfl) ?_
  refine TL.val rfl rfl rfl (by first | exact Y.fieldAddrJ rfl fo68_11 rfl nqq | exact Y.fieldAddr rfl fo68_11 rfl nqq) ?_
  refine TL.val rfl rfl rfl (Y.load rfl sc2 rfl celN) ?_
  refine TL.as (vI S.clock) (by rfl) ?_
  refine TL.val rfl rfl rfl (Y.move rfl rfl) ?_
  refine TL.val rfl rfl rfl (Y.maxI rfl rfl rfl) ?_
  refine TL.as (vI (max S.clock now)) (by rfl) ?_
  refine TL.val rfl rfl rfl (Y.nilCheck rfl rfl) ?_
  refine TL.val rfl rfl rfl (by first | exact Y.fieldAddrJ rfl fo68_11 rfl nqq | exact Y.fieldAddr rfl fo68_11 rfl nqq) ?_
  refine TL.eff0 rfl rfl (X.store (cs' := asC p (S.clocked now)) rfl (by kernel_rfl) rfl rfl rfl pul (by show 11 < 17; decide) rfl) ?_
  rintro _ _ rfl
  refine TL.nil ?_
  refine TQ.next ?_
  refine TC.seq ?_
  refine TC.region ?_
  refine TL.val rfl rfl rfl (Y.move rfl rfl) ?_
  refine TL.eff rfl rfl rfl (X.call rfl Try.func26 (by kernel_rfl) rfl rfl (Fn.preE (by repeat first | (with_reducible apply Ent.refl) | (apply Ent.cons; case h => first | (with_reducible (repeat first | apply Pull.here | apply Pull.there); done) | (repeat first | apply Pull.here | apply Pull.there))) (rd.New_fn a n cap l hn hl _))) ?_
  rintro _ _ ⟨p28, rfl, rfl⟩
  refine TL.val rfl rfl rfl (Y.assign rfl rfl) ?_
  refine TL.nil ?_
  refine TQ.next ?_
  refine TC.seq ?_
  refine TC.region ?_
  refine TL.val rfl rfl rfl (Y.move rfl rfl) ?_
  refine TL.eff rfl rfl rfl (X.call rfl Try.func27 (by kernel_rfl) rfl rfl (Fn.preE (by repeat first | (with_reducible apply Ent.refl) | (apply Ent.cons; case h => first | (with_reducible (repeat first | apply Pull.here | apply Pull.there); done) | (repeat first | apply Pull.here | apply Pull.there))) (u32_ok p28 l (by omega) _))) ?_
  rintro _ _ ⟨rfl, rfl⟩
  rw [show num (l.take 4) = n32 l 0 from rfl]
  refine TL.val rfl rfl rfl (Y.move rfl rfl) ?_
  refine TL.eff rfl rfl rfl (X.call rfl Try.func27 (by kernel_rfl) rfl rfl (Fn.preE (by repeat first | (with_reducible apply Ent.refl) | (apply Ent.cons; case h => first | (with_reducible (repeat first | apply Pull.here | apply Pull.there); done) | (repeat first | apply Pull.here | apply Pull.there))) (u32_ok p28 (l.drop 4) (by rw [List.length_drop]; omega) _))) ?_
  rintro _ _ ⟨rfl, rfl⟩
  rw [show num ((l.drop 4).take 4) = n32 l 4 from rfl, List.drop_drop]
  refine TL.val rfl rfl rfl (Y.assign rfl rfl) ?_
  refine TL.val rfl rfl rfl (Y.assign rfl rfl) ?_
  refine TL.nil ?_
  refine TQ.next ?_
  refine TC.seq ?_
  refine TC.region ?_
  refine TL.val rfl rfl rfl (Y.move rfl rfl) ?_
  refine TL.val rfl rfl rfl (Y.bin rfl rfl rfl (br_shr32 (n := 24))) ?_
  refine TL.as (v32 kd) (by (rw [← hF.kind])) ?_
  refine TL.val rfl rfl rfl (Y.assign rfl rfl) ?_
  refine TL.nil ?_
  refine TQ.next ?_
  refine TC.seq ?_
  refine TC.seq ?_
  refine TC.region ?_
  refine TL.val rfl rfl rfl (Y.move rfl rfl) ?_
  refine TL.eff rfl rfl rfl (X.call rfl Try.func28 (by kernel_rfl) rfl rfl (Fn.preE (by repeat first | (with_reducible apply Ent.refl) | (apply Ent.cons; case h => first | (with_reducible (repeat first | apply Pull.here | apply Pull.there); done) | (repeat first | apply Pull.here | apply Pull.there))) (rd.Bad_fn _ _ _ _))) ?_
  rintro _ _ ⟨rfl, rfl⟩
  refine TL.val rfl rfl rfl (Y.move rfl rfl) ?_
  refine TL.valG rfl rfl rfl (Y.move rfl rfl) ?_
  refine TL.valG rfl rfl rfl (Y.bin rfl rfl rfl (br_and32 (y := 16777215))) ?_
  refine TL.valG rfl rfl rfl (Y.bin rfl rfl rfl (br_ne32 (y := 0))) ?_
  refine TL.is false (by (simpa using hF.low)) ?_
  refine TL.val rfl rfl rfl (Y.pick_f rfl rfl rfl) ?_
  refine TL.val rfl rfl rfl (Y.move rfl rfl) ?_
  refine TL.valG rfl rfl rfl (Y.move rfl rfl) ?_
  refine TL.valG rfl rfl rfl (Y.conv rfl Try.underlying22 Try.underlying5 rfl (cv_32_8)) ?_
  refine TL.valG rfl rfl rfl (Y.move rfl rfl) ?_
  refine TL.effG rfl rfl rfl (X.call rfl Try.func30 (by kernel_rfl) rfl rfl (Fn.preE (by repeat first | (with_reducible apply Ent.refl) | (apply Ent.cons; case h => first | (with_reducible (repeat first | apply Pull.here | apply Pull.there); done) | (repeat first | apply Pull.here | apply Pull.there))) (rd.Left_fn _ _ _ _))) ?_
  rintro _ _ ⟨rfl, rfl⟩
  refine TL.as (vN (l.length - 8)) (by (rw [List.length_drop])) ?_
  refine TL.effG rfl rfl rfl (X.call rfl Try.func29 (by kernel_rfl) rfl rfl (Fn.preE (by repeat first | (with_reducible apply Ent.refl) | (apply Ent.cons; case h => first | (with_reducible (repeat first | apply Pull.here | apply Pull.there); done) | (repeat first | apply Pull.here | apply Pull.there))) (fits_fn kd.toUInt8 (l.length - 8) (by omega) _))) ?_
  rintro _ _ ⟨rfl, rfl⟩
  refine TL.valG rfl rfl rfl (Y.not rfl rfl) ?_
  refine TL.is false (by (rw [hF.fits]; rfl)) ?_
  refine TL.val rfl rfl rfl (Y.pick_f rfl rfl rfl) ?_
  refine TL.val rfl rfl rfl (Y.move rfl rfl) ?_
  refine TL.valG rfl rfl rfl (Y.move rfl rfl) ?_
  refine TL.valG rfl rfl rfl (Y.bin rfl rfl rfl (br_eq32 (y := 0))) ?_
  refine TL.valG rfl rfl rfl (Y.move rfl rfl) ?_
  refine TL.valG rfl rfl rfl (Y.bin rfl rfl rfl (br_eq32 (y := 1))) ?_
  refine TL.valG rfl rfl rfl (Y.neBool rfl Try.underlying4 rfl rfl) ?_
  refine TL.is false (by (have := hF.tagged; by_cases e1 : n32 l 0 = 0 <;> by_cases e2 : kd = 1 <;> simp_all <;> rw [beq_eq_false_iff_ne.2 e1, beq_eq_false_iff_ne.2 e2])) ?_
  refine TL.val rfl rfl rfl (Y.pick_f rfl rfl rfl) ?_
  refine TL.nil ?_
  refine TQ.next ?_
  refine TC.cond_f rfl ?_
  refine TC.skip ?_
  refine TQ.next ?_
  refine TC.seq ?_
  refine TC.seq ?_
  refine TC.region ?_
  refine TL.val rfl rfl rfl (Y.move rfl rfl) ?_
  refine TL.val rfl rfl rfl (Y.bin rfl rfl rfl (br_leN (n := 2))) ?_
  refine TL.is false (by (subst hkd; decide)) ?_
  refine TL.val rfl rfl rfl (Y.move rfl rfl) ?_
  refine TL.not rfl rfl rfl ?_
  refine TL.not rfl rfl rfl ?_
  refine TL.not rfl rfl rfl ?_
  refine TL.not rfl rfl rfl ?_
  refine TL.not rfl rfl rfl ?_
  refine TL.val rfl rfl rfl (Y.pick_f rfl rfl rfl) ?_
  refine TL.nil ?_
  refine TQ.next ?_
  refine TC.cond_f rfl ?_
  refine TC.skip ?_
  refine TQ.next ?_
  refine TC.seq ?_
  refine TC.block ?_
  refine TC.seq ?_
  refine TC.region ?_
  refine TL.val rfl rfl rfl (Y.move rfl rfl) ?_
  refine TL.val rfl rfl rfl (Y.bin rfl rfl rfl (br_eq32 (y := 1))) ?_
  refine TL.is false (by (subst hkd; decide)) ?_
  refine TL.val rfl rfl rfl (Y.assign rfl rfl) ?_
  refine TL.nil ?_
  refine TQ.next ?_
  refine TC.cond_f rfl ?_
  refine TC.seq ?_
  refine TC.region ?_
  refine TL.val rfl rfl rfl (Y.move rfl rfl) ?_
  refine TL.val rfl rfl rfl (Y.move rfl rfl) ?_
  refine TL.val rfl rfl rfl (Y.nilCheck rfl rfl) ?_
  refine TL.val rfl rfl rfl (by first | exact Y.fieldAddrJ rfl fo68_0 rfl nqq | exact Y.fieldAddr rfl fo68_0 rfl nqq) ?_
  refine TL.val rfl rfl rfl (Y.load rfl sc22 rfl cel32) ?_
  refine TL.as (v32 S.tag) (by rfl) ?_
  refine TL.val rfl rfl rfl (Y.bin rfl rfl rfl (br_ne32)) ?_
  refine TL.is false (by (simpa using ht)) ?_
  refine TL.val rfl rfl rfl (Y.assign rfl rfl) ?_
  refine TL.nil ?_
  refine TQ.next ?_
  refine TC.cond_f rfl ?_
  refine TC.seq ?_
  refine TC.region ?_
  refine TL.val rfl rfl rfl (Y.move rfl rfl) ?_
  refine TL.val rfl rfl rfl (Y.bin rfl rfl rfl (br_eq32 (y := 2))) ?_
  refine TL.is false (by (subst hkd; decide)) ?_
  refine TL.val rfl rfl rfl (Y.assign rfl rfl) ?_
  refine TL.nil ?_
  refine TQ.next ?_
  refine TC.cond_f rfl ?_
  refine TC.seq ?_
  refine TC.region ?_
  refine TL.val rfl rfl rfl (Y.move rfl rfl) ?_
  refine TL.val rfl rfl rfl (Y.bin rfl rfl rfl (br_eq32 (y := 3))) ?_
  refine TL.is false (by (subst hkd; decide)) ?_
  refine TL.val rfl rfl rfl (Y.assign rfl rfl) ?_
  refine TL.nil ?_
  refine TQ.next ?_
  refine TC.cond_f rfl ?_
  refine TC.seq ?_
  refine TC.region ?_
  refine TL.val rfl rfl rfl (Y.move rfl rfl) ?_
  refine TL.val rfl rfl rfl (Y.bin rfl rfl rfl (br_eq32 (y := 4))) ?_
  refine TL.is true (by (subst hkd; decide)) ?_
  refine TL.val rfl rfl rfl (Y.assign rfl rfl) ?_
  refine TL.nil ?_
  refine TQ.next ?_
  refine TC.cond_t rfl ?_
  refine TC.seq ?_
  refine TC.seq ?_
  refine TC.region ?_
  refine TL.val rfl rfl rfl (Y.move rfl rfl) ?_
  refine TL.val rfl rfl rfl (Y.nilCheck rfl rfl) ?_
  refine TL.val rfl rfl rfl (by first | exact Y.fieldAddrJ rfl fo68_3 rfl nqq | exact Y.fieldAddr rfl fo68_3 rfl nqq) ?_
  refine TL.val rfl rfl rfl (Y.load rfl sc3 rfl celN) ?_
  refine TL.as (vN S.state) (by rfl) ?_
  refine TL.nil ?_
  refine TQ.next ?_
  refine TC.block ?_
  refine TC.seq ?_
  refine TC.region ?_
  refine TL.val rfl rfl rfl (Y.bin rfl rfl rfl (br_eqN (n := 2))) ?_
  refine TL.is true (by (simpa using hs)) ?_
  refine TL.val rfl rfl rfl (Y.assign rfl rfl) ?_
  refine TL.nil ?_
  refine TQ.next ?_
  refine TC.cond_t rfl ?_
  refine TC.region ?_
  refine TL.val rfl rfl rfl (Y.move rfl rfl) ?_
  refine TL.val rfl rfl rfl (Y.move rfl rfl) ?_
  refine TL.val rfl rfl rfl (Y.nilCheck rfl rfl) ?_
  refine TL.val rfl rfl rfl (by first | exact Y.fieldAddrJ rfl fo68_3 rfl nqq | exact Y.fieldAddr rfl fo68_3 rfl nqq) ?_
  refine TL.eff0 rfl rfl (X.store (cs' := asC p { S.clocked now with state := 3 }) rfl (by kernel_rfl) rfl rfl rfl pul (by show 3 < 17; decide) rfl) ?_
  rintro _ _ rfl
  refine TL.val rfl rfl rfl (Y.nilCheck rfl rfl) ?_
  refine TL.val rfl rfl rfl (by first | exact Y.fieldAddrJ rfl fo68_12 rfl nqq | exact Y.fieldAddr rfl fo68_12 rfl nqq) ?_
  refine TL.val rfl rfl rfl (by first | exact Y.fieldAddrJ rfl fo66_0 rfl nqq | exact Y.fieldAddr rfl fo66_0 rfl nqq) ?_
  refine TL.eff0 rfl rfl (X.store (cs' := asC p { S.clocked now with state := 3, tset := false }) rfl (by kernel_rfl) rfl rfl rfl pul (by show 12 < 17; decide) rfl) ?_
  rintro _ _ rfl
  refine TL.nil ?_
  refine TQ.block_normal ?_
  refine TQ.next ?_
  refine TC.seq ?_
  refine TC.region ?_
  refine TL.val rfl rfl rfl (Y.assign rfl rfl) ?_
  refine TL.val rfl rfl rfl (Y.assign rfl rfl) ?_
  refine TL.val rfl rfl rfl (Y.assign rfl rfl) ?_
  refine TL.nil ?_
  refine TQ.next ?_
  refine TC.ret ?_
  refine TQ.block_ret ?_
  refine TQ.then_ret ?_
  refine TQ.retE (resL rfl (Res.tmp rfl (Res.tmp rfl (Res.tmp rfl Res.nil)))) (⟨rfl, rfl⟩) ?_
  exact ett

theorem H_cka_same (kd : UInt32) (hF : Formed l kd) (hkd : kd = 4) (ht : n32 l 0 = S.tag) (hs : S.state = 3) (L : List SA) : Fn Try.prog 12 [pt b 0, .slice a n cap, vI now] (aB b p S :: SA.rds 1 (.slice a n cap) n (l.map v8) :: L) (fun v L' => v = noOut 0 ∧ L' = aB b p (S.clocked now) :: SA.rds 1 (.slice a n cap) n (l.map v8) :: L) := by
  have hlen := hF.len
  refine Fn.of (N := 160) Try.func12 rfl rfl ?_
  intro Xh
  refine TC.seq ?_
  refine TC.region ?_
  refine TL.val rfl rfl rfl (Y.assign rfl rfl) ?_
  refine TL.val rfl rfl rfl (Y.assign rfl rfl) ?_
  refine TL.val rfl rfl rfl (Y.assign rfl rfl) ?_
  refine TL.nil ?_
  refine TQ.next ?_
  refine TC.seq ?_
  refine TC.seq ?_
  refine TC.region ?_
  refine TL.val rfl rfl rfl (Y.move rfl rfl) ?_
  refine TL.val rfl rfl rfl (by first | exact Y.eqNilP rfl Try.underlying26 rfl rfl | exact Y.eqNil0 rfl Try.underlying26 rfl rfl) ?_
  refine TL.nil ?_
  refine TQ.next ?_
  refine TC.cond_f rfl ?_
  refine TC.skip ?_
  refine TQ.next ?_
  refine TC.seq ?_
  refine TC.region ?_
  refine TL.val rfl rfl rfl (Y.move rfl rfl) ?_
  refine TL.val rfl rfl rfl (Y.move rfl rfl) ?_
  refine TL.val rfl rfl rfl (Y.nilCheck rfl rfl) ?_
  refine TL.val rfl rfl rfl (by first | exact Y.fieldAddrJ rfl fo68_11 rfl nqq | exact Y.fieldAddr rfl fo68_11 rfl nqq) ?_
  refine TL.val rfl rfl rfl (Y.load rfl sc2 rfl celN) ?_
  refine TL.as (vI S.clock) (by rfl) ?_
  refine TL.val rfl rfl rfl (Y.move rfl rfl) ?_
  refine TL.val rfl rfl rfl (Y.maxI rfl rfl rfl) ?_
  refine TL.as (vI (max S.clock now)) (by rfl) ?_
  refine TL.val rfl rfl rfl (Y.nilCheck rfl rfl) ?_
  refine TL.val rfl rfl rfl (by first | exact Y.fieldAddrJ rfl fo68_11 rfl nqq | exact Y.fieldAddr rfl fo68_11 rfl nqq) ?_
  refine TL.eff0 rfl rfl (X.store (cs' := asC p (S.clocked now)) rfl (by kernel_rfl) rfl rfl rfl pul (by show 11 < 17; decide) rfl) ?_
  rintro _ _ rfl
  refine TL.nil ?_
  refine TQ.next ?_
  refine TC.seq ?_
  refine TC.region ?_
  refine TL.val rfl rfl rfl (Y.move rfl rfl) ?_
  refine TL.eff rfl rfl rfl (X.call rfl Try.func26 (by kernel_rfl) rfl rfl (Fn.preE (by repeat first | (with_reducible apply Ent.refl) | (apply Ent.cons; case h => first | (with_reducible (repeat first | apply Pull.here | apply Pull.there); done) | (repeat first | apply Pull.here | apply Pull.there))) (rd.New_fn a n cap l hn hl _))) ?_
  rintro _ _ ⟨p28, rfl, rfl⟩
  refine TL.val rfl rfl rfl (Y.assign rfl rfl) ?_
  refine TL.nil ?_
  refine TQ.next ?_
  refine TC.seq ?_
  refine TC.region ?_
  refine TL.val rfl rfl rfl (Y.move rfl rfl) ?_
  refine TL.eff rfl rfl rfl (X.call rfl Try.func27 (by kernel_rfl) rfl rfl (Fn.preE (by repeat first | (with_reducible apply Ent.refl) | (apply Ent.cons; case h => first | (with_reducible (repeat first | apply Pull.here | apply Pull.there); done) | (repeat first | apply Pull.here | apply Pull.there))) (u32_ok p28 l (by omega) _))) ?_
  rintro _ _ ⟨rfl, rfl⟩
  rw [show num (l.take 4) = n32 l 0 from rfl]
  refine TL.val rfl rfl rfl (Y.move rfl rfl) ?_
  refine TL.eff rfl rfl rfl (X.call rfl Try.func27 (by kernel_rfl) rfl rfl (Fn.preE (by repeat first | (with_reducible apply Ent.refl) | (apply Ent.cons; case h => first | (with_reducible (repeat first | apply Pull.here | apply Pull.there); done) | (repeat first | apply Pull.here | apply Pull.there))) (u32_ok p28 (l.drop 4) (by rw [List.length_drop]; omega) _))) ?_
  rintro _ _ ⟨rfl, rfl⟩
  rw [show num ((l.drop 4).take 4) = n32 l 4 from rfl, List.drop_drop]
  refine TL.val rfl rfl rfl (Y.assign rfl rfl) ?_
  refine TL.val rfl rfl rfl (Y.assign rfl rfl) ?_
  refine TL.nil ?_
  refine TQ.next ?_
  refine TC.seq ?_
  refine TC.region ?_
  refine TL.val rfl rfl rfl (Y.move rfl rfl) ?_
  refine TL.val rfl rfl rfl (Y.bin rfl rfl rfl (br_shr32 (n := 24))) ?_
  refine TL.as (v32 kd) (by (rw [← hF.kind])) ?_
  refine TL.val rfl rfl rfl (Y.assign rfl rfl) ?_
  refine TL.nil ?_
  refine TQ.next ?_
  refine TC.seq ?_
  refine TC.seq ?_
  refine TC.region ?_
  refine TL.val rfl rfl rfl (Y.move rfl rfl) ?_
  refine TL.eff rfl rfl rfl (X.call rfl Try.func28 (by kernel_rfl) rfl rfl (Fn.preE (by repeat first | (with_reducible apply Ent.refl) | (apply Ent.cons; case h => first | (with_reducible (repeat first | apply Pull.here | apply Pull.there); done) | (repeat first | apply Pull.here | apply Pull.there))) (rd.Bad_fn _ _ _ _))) ?_
  rintro _ _ ⟨rfl, rfl⟩
  refine TL.val rfl rfl rfl (Y.move rfl rfl) ?_
  refine TL.valG rfl rfl rfl (Y.move rfl rfl) ?_
  refine TL.valG rfl rfl rfl (Y.bin rfl rfl rfl (br_and32 (y := 16777215))) ?_
  refine TL.valG rfl rfl rfl (Y.bin rfl rfl rfl (br_ne32 (y := 0))) ?_
  refine TL.is false (by (simpa using hF.low)) ?_
  refine TL.val rfl rfl rfl (Y.pick_f rfl rfl rfl) ?_
  refine TL.val rfl rfl rfl (Y.move rfl rfl) ?_
  refine TL.valG rfl rfl rfl (Y.move rfl rfl) ?_
  refine TL.valG rfl rfl rfl (Y.conv rfl Try.underlying22 Try.underlying5 rfl (cv_32_8)) ?_
  refine TL.valG rfl rfl rfl (Y.move rfl rfl) ?_
  refine TL.effG rfl rfl rfl (X.call rfl Try.func30 (by kernel_rfl) rfl rfl (Fn.preE (by repeat first | (with_reducible apply Ent.refl) | (apply Ent.cons; case h => first | (with_reducible (repeat first | apply Pull.here | apply Pull.there); done) | (repeat first | apply Pull.here | apply Pull.there))) (rd.Left_fn _ _ _ _))) ?_
  rintro _ _ ⟨rfl, rfl⟩
  refine TL.as (vN (l.length - 8)) (by (rw [List.length_drop])) ?_
  refine TL.effG rfl rfl rfl (X.call rfl Try.func29 (by kernel_rfl) rfl rfl (Fn.preE (by repeat first | (with_reducible apply Ent.refl) | (apply Ent.cons; case h => first | (with_reducible (repeat first | apply Pull.here | apply Pull.there); done) | (repeat first | apply Pull.here | apply Pull.there))) (fits_fn kd.toUInt8 (l.length - 8) (by omega) _))) ?_
  rintro _ _ ⟨rfl, rfl⟩
  refine TL.valG rfl rfl rfl (Y.not rfl rfl) ?_
  refine TL.is false (by (rw [hF.fits]; rfl)) ?_
  refine TL.val rfl rfl rfl (Y.pick_f rfl rfl rfl) ?_
  refine TL.val rfl rfl rfl (Y.move rfl rfl) ?_
  refine TL.valG rfl rfl rfl (Y.move rfl rfl) ?_
  refine TL.valG rfl rfl rfl (Y.bin rfl rfl rfl (br_eq32 (y := 0))) ?_
  refine TL.valG rfl rfl rfl (Y.move rfl rfl) ?_
  refine TL.valG rfl rfl rfl (Y.bin rfl rfl rfl (br_eq32 (y := 1))) ?_
  refine TL.valG rfl rfl rfl (Y.neBool rfl Try.underlying4 rfl rfl) ?_
  refine TL.is false (by (have := hF.tagged; by_cases e1 : n32 l 0 = 0 <;> by_cases e2 : kd = 1 <;> simp_all <;> rw [beq_eq_false_iff_ne.2 e1, beq_eq_false_iff_ne.2 e2])) ?_
  refine TL.val rfl rfl rfl (Y.pick_f rfl rfl rfl) ?_
  refine TL.nil ?_
  refine TQ.next ?_
  refine TC.cond_f rfl ?_
  refine TC.skip ?_
  refine TQ.next ?_
  refine TC.seq ?_
  refine TC.seq ?_
  refine TC.region ?_
  refine TL.val rfl rfl rfl (Y.move rfl rfl) ?_
  refine TL.val rfl rfl rfl (Y.bin rfl rfl rfl (br_leN (n := 2))) ?_
  refine TL.is false (by (subst hkd; decide)) ?_
  refine TL.val rfl rfl rfl (Y.move rfl rfl) ?_
  refine TL.not rfl rfl rfl ?_
  refine TL.not rfl rfl rfl ?_
  refine TL.not rfl rfl rfl ?_
  refine TL.not rfl rfl rfl ?_
  refine TL.not rfl rfl rfl ?_
  refine TL.val rfl rfl rfl (Y.pick_f rfl rfl rfl) ?_
  refine TL.nil ?_
  refine TQ.next ?_
  refine TC.cond_f rfl ?_
  refine TC.skip ?_
  refine TQ.next ?_
  refine TC.seq ?_
  refine TC.block ?_
  refine TC.seq ?_
  refine TC.region ?_
  refine TL.val rfl rfl rfl (Y.move rfl rfl) ?_
  refine TL.val rfl rfl rfl (Y.bin rfl rfl rfl (br_eq32 (y := 1))) ?_
  refine TL.is false (by (subst hkd; decide)) ?_
  refine TL.val rfl rfl rfl (Y.assign rfl rfl) ?_
  refine TL.nil ?_
  refine TQ.next ?_
  refine TC.cond_f rfl ?_
  refine TC.seq ?_
  refine TC.region ?_
  refine TL.val rfl rfl rfl (Y.move rfl rfl) ?_
  refine TL.val rfl rfl rfl (Y.move rfl rfl) ?_
  refine TL.val rfl rfl rfl (Y.nilCheck rfl rfl) ?_
  refine TL.val rfl rfl rfl (by first | exact Y.fieldAddrJ rfl fo68_0 rfl nqq | exact Y.fieldAddr rfl fo68_0 rfl nqq) ?_
  refine TL.val rfl rfl rfl (Y.load rfl sc22 rfl cel32) ?_
  refine TL.as (v32 S.tag) (by rfl) ?_
  refine TL.val rfl rfl rfl (Y.bin rfl rfl rfl (br_ne32)) ?_
  refine TL.is false (by (simpa using ht)) ?_
  refine TL.val rfl rfl rfl (Y.assign rfl rfl) ?_
  refine TL.nil ?_
  refine TQ.next ?_
  refine TC.cond_f rfl ?_
  refine TC.seq ?_
  refine TC.region ?_
  refine TL.val rfl rfl rfl (Y.move rfl rfl) ?_
  refine TL.val rfl rfl rfl (Y.bin rfl rfl rfl (br_eq32 (y := 2))) ?_
  refine TL.is false (by (subst hkd; decide)) ?_
  refine TL.val rfl rfl rfl (Y.assign rfl rfl) ?_
  refine TL.nil ?_
  refine TQ.next ?_
  refine TC.cond_f rfl ?_
  refine TC.seq ?_
  refine TC.region ?_
  refine TL.val rfl rfl rfl (Y.move rfl rfl) ?_
  refine TL.val rfl rfl rfl (Y.bin rfl rfl rfl (br_eq32 (y := 3))) ?_
  refine TL.is false (by (subst hkd; decide)) ?_
  refine TL.val rfl rfl rfl (Y.assign rfl rfl) ?_
  refine TL.nil ?_
  refine TQ.next ?_
  refine TC.cond_f rfl ?_
  refine TC.seq ?_
  refine TC.region ?_
  refine TL.val rfl rfl rfl (Y.move rfl rfl) ?_
  refine TL.val rfl rfl rfl (Y.bin rfl rfl rfl (br_eq32 (y := 4))) ?_
  refine TL.is true (by (subst hkd; decide)) ?_
  refine TL.val rfl rfl rfl (Y.assign rfl rfl) ?_
  refine TL.nil ?_
  refine TQ.next ?_
  refine TC.cond_t rfl ?_
  refine TC.seq ?_
  refine TC.seq ?_
  refine TC.region ?_
  refine TL.val rfl rfl rfl (Y.move rfl rfl) ?_
  refine TL.val rfl rfl rfl (Y.nilCheck rfl rfl) ?_
  refine TL.val rfl rfl rfl (by first | exact Y.fieldAddrJ rfl fo68_3 rfl nqq | exact Y.fieldAddr rfl fo68_3 rfl nqq) ?_
  refine TL.val rfl rfl rfl (Y.load rfl sc3 rfl celN) ?_
  refine TL.as (vN S.state) (by rfl) ?_
  refine TL.nil ?_
  refine TQ.next ?_
  refine TC.block ?_
  refine TC.seq ?_
  refine TC.region ?_
  refine TL.val rfl rfl rfl (Y.bin rfl rfl rfl (br_eqN (n := 2))) ?_
  refine TL.is false (by (simp; omega)) ?_
  refine TL.val rfl rfl rfl (Y.assign rfl rfl) ?_
  refine TL.nil ?_
  refine TQ.next ?_
  refine TC.cond_f rfl ?_
  refine TC.seq ?_
  refine TC.region ?_
  refine TL.val rfl rfl rfl (Y.bin rfl rfl rfl (br_eqN (n := 3))) ?_
  refine TL.is true (by (simpa using hs)) ?_
  refine TL.val rfl rfl rfl (Y.assign rfl rfl) ?_
  refine TL.nil ?_
  refine TQ.next ?_
  refine TC.cond_t rfl ?_
  refine TC.skip ?_
  refine TQ.block_normal ?_
  refine TQ.next ?_
  refine TC.seq ?_
  refine TC.region ?_
  refine TL.val rfl rfl rfl (Y.assign rfl rfl) ?_
  refine TL.val rfl rfl rfl (Y.assign rfl rfl) ?_
  refine TL.val rfl rfl rfl (Y.assign rfl rfl) ?_
  refine TL.nil ?_
  refine TQ.next ?_
  refine TC.ret ?_
  refine TQ.block_ret ?_
  refine TQ.then_ret ?_
  refine TQ.retE (resL rfl (Res.tmp rfl (Res.tmp rfl (Res.tmp rfl Res.nil)))) (⟨rfl, rfl⟩) ?_
  exact ett

theorem H_cka_no (kd : UInt32) (hF : Formed l kd) (hkd : kd = 4) (ht : n32 l 0 = S.tag) (hs2 : S.state ≠ 2) (hs3 : S.state ≠ 3) (L : List SA) : Fn Try.prog 12 [pt b 0, .slice a n cap, vI now] (aB b p S :: SA.rds 1 (.slice a n cap) n (l.map v8) :: L) (fun v L' => v = noOut 9 ∧ L' = aB b p (S.clocked now) :: SA.rds 1 (.slice a n cap) n (l.map v8) :: L) := by
  have hlen := hF.len
  refine Fn.of (N := 160) Try.func12 rfl rfl ?_
  intro Xh
  refine TC.seq ?_
  refine TC.region ?_
  refine TL.val rfl rfl rfl (Y.assign rfl rfl) ?_
  refine TL.val rfl rfl rfl (Y.assign rfl rfl) ?_
  refine TL.val rfl rfl rfl (Y.assign rfl rfl) ?_
  refine TL.nil ?_
  refine TQ.next ?_
  refine TC.seq ?_
  refine TC.seq ?_
  refine TC.region ?_
  refine TL.val rfl rfl rfl (Y.move rfl rfl) ?_
  refine TL.val rfl rfl rfl (by first | exact Y.eqNilP rfl Try.underlying26 rfl rfl | exact Y.eqNil0 rfl Try.underlying26 rfl rfl) ?_
  refine TL.nil ?_
  refine TQ.next ?_
  refine TC.cond_f rfl ?_
  refine TC.skip ?_
  refine TQ.next ?_
  refine TC.seq ?_
  refine TC.region ?_
  refine TL.val rfl rfl rfl (Y.move rfl rfl) ?_
  refine TL.val rfl rfl rfl (Y.move rfl rfl) ?_
  refine TL.val rfl rfl rfl (Y.nilCheck rfl rfl) ?_
  refine TL.val rfl rfl rfl (by first | exact Y.fieldAddrJ rfl fo68_11 rfl nqq | exact Y.fieldAddr rfl fo68_11 rfl nqq) ?_
  refine TL.val rfl rfl rfl (Y.load rfl sc2 rfl celN) ?_
  refine TL.as (vI S.clock) (by rfl) ?_
  refine TL.val rfl rfl rfl (Y.move rfl rfl) ?_
  refine TL.val rfl rfl rfl (Y.maxI rfl rfl rfl) ?_
  refine TL.as (vI (max S.clock now)) (by rfl) ?_
  refine TL.val rfl rfl rfl (Y.nilCheck rfl rfl) ?_
  refine TL.val rfl rfl rfl (by first | exact Y.fieldAddrJ rfl fo68_11 rfl nqq | exact Y.fieldAddr rfl fo68_11 rfl nqq) ?_
  refine TL.eff0 rfl rfl (X.store (cs' := asC p (S.clocked now)) rfl (by kernel_rfl) rfl rfl rfl pul (by show 11 < 17; decide) rfl) ?_
  rintro _ _ rfl
  refine TL.nil ?_
  refine TQ.next ?_
  refine TC.seq ?_
  refine TC.region ?_
  refine TL.val rfl rfl rfl (Y.move rfl rfl) ?_
  refine TL.eff rfl rfl rfl (X.call rfl Try.func26 (by kernel_rfl) rfl rfl (Fn.preE (by repeat first | (with_reducible apply Ent.refl) | (apply Ent.cons; case h => first | (with_reducible (repeat first | apply Pull.here | apply Pull.there); done) | (repeat first | apply Pull.here | apply Pull.there))) (rd.New_fn a n cap l hn hl _))) ?_
  rintro _ _ ⟨p28, rfl, rfl⟩
  refine TL.val rfl rfl rfl (Y.assign rfl rfl) ?_
  refine TL.nil ?_
  refine TQ.next ?_
  refine TC.seq ?_
  refine TC.region ?_
  refine TL.val rfl rfl rfl (Y.move rfl rfl) ?_
  refine TL.eff rfl rfl rfl (X.call rfl Try.func27 (by kernel_rfl) rfl rfl (Fn.preE (by repeat first | (with_reducible apply Ent.refl) | (apply Ent.cons; case h => first | (with_reducible (repeat first | apply Pull.here | apply Pull.there); done) | (repeat first | apply Pull.here | apply Pull.there))) (u32_ok p28 l (by omega) _))) ?_
  rintro _ _ ⟨rfl, rfl⟩
  rw [show num (l.take 4) = n32 l 0 from rfl]
  refine TL.val rfl rfl rfl (Y.move rfl rfl) ?_
  refine TL.eff rfl rfl rfl (X.call rfl Try.func27 (by kernel_rfl) rfl rfl (Fn.preE (by repeat first | (with_reducible apply Ent.refl) | (apply Ent.cons; case h => first | (with_reducible (repeat first | apply Pull.here | apply Pull.there); done) | (repeat first | apply Pull.here | apply Pull.there))) (u32_ok p28 (l.drop 4) (by rw [List.length_drop]; omega) _))) ?_
  rintro _ _ ⟨rfl, rfl⟩
  rw [show num ((l.drop 4).take 4) = n32 l 4 from rfl, List.drop_drop]
  refine TL.val rfl rfl rfl (Y.assign rfl rfl) ?_
  refine TL.val rfl rfl rfl (Y.assign rfl rfl) ?_
  refine TL.nil ?_
  refine TQ.next ?_
  refine TC.seq ?_
  refine TC.region ?_
  refine TL.val rfl rfl rfl (Y.move rfl rfl) ?_
  refine TL.val rfl rfl rfl (Y.bin rfl rfl rfl (br_shr32 (n := 24))) ?_
  refine TL.as (v32 kd) (by (rw [← hF.kind])) ?_
  refine TL.val rfl rfl rfl (Y.assign rfl rfl) ?_
  refine TL.nil ?_
  refine TQ.next ?_
  refine TC.seq ?_
  refine TC.seq ?_
  refine TC.region ?_
  refine TL.val rfl rfl rfl (Y.move rfl rfl) ?_
  refine TL.eff rfl rfl rfl (X.call rfl Try.func28 (by kernel_rfl) rfl rfl (Fn.preE (by repeat first | (with_reducible apply Ent.refl) | (apply Ent.cons; case h => first | (with_reducible (repeat first | apply Pull.here | apply Pull.there); done) | (repeat first | apply Pull.here | apply Pull.there))) (rd.Bad_fn _ _ _ _))) ?_
  rintro _ _ ⟨rfl, rfl⟩
  refine TL.val rfl rfl rfl (Y.move rfl rfl) ?_
  refine TL.valG rfl rfl rfl (Y.move rfl rfl) ?_
  refine TL.valG rfl rfl rfl (Y.bin rfl rfl rfl (br_and32 (y := 16777215))) ?_
  refine TL.valG rfl rfl rfl (Y.bin rfl rfl rfl (br_ne32 (y := 0))) ?_
  refine TL.is false (by (simpa using hF.low)) ?_
  refine TL.val rfl rfl rfl (Y.pick_f rfl rfl rfl) ?_
  refine TL.val rfl rfl rfl (Y.move rfl rfl) ?_
  refine TL.valG rfl rfl rfl (Y.move rfl rfl) ?_
  refine TL.valG rfl rfl rfl (Y.conv rfl Try.underlying22 Try.underlying5 rfl (cv_32_8)) ?_
  refine TL.valG rfl rfl rfl (Y.move rfl rfl) ?_
  refine TL.effG rfl rfl rfl (X.call rfl Try.func30 (by kernel_rfl) rfl rfl (Fn.preE (by repeat first | (with_reducible apply Ent.refl) | (apply Ent.cons; case h => first | (with_reducible (repeat first | apply Pull.here | apply Pull.there); done) | (repeat first | apply Pull.here | apply Pull.there))) (rd.Left_fn _ _ _ _))) ?_
  rintro _ _ ⟨rfl, rfl⟩
  refine TL.as (vN (l.length - 8)) (by (rw [List.length_drop])) ?_
  refine TL.effG rfl rfl rfl (X.call rfl Try.func29 (by kernel_rfl) rfl rfl (Fn.preE (by repeat first | (with_reducible apply Ent.refl) | (apply Ent.cons; case h => first | (with_reducible (repeat first | apply Pull.here | apply Pull.there); done) | (repeat first | apply Pull.here | apply Pull.there))) (fits_fn kd.toUInt8 (l.length - 8) (by omega) _))) ?_
  rintro _ _ ⟨rfl, rfl⟩
  refine TL.valG rfl rfl rfl (Y.not rfl rfl) ?_
  refine TL.is false (by (rw [hF.fits]; rfl)) ?_
  refine TL.val rfl rfl rfl (Y.pick_f rfl rfl rfl) ?_
  refine TL.val rfl rfl rfl (Y.move rfl rfl) ?_
  refine TL.valG rfl rfl rfl (Y.move rfl rfl) ?_
  refine TL.valG rfl rfl rfl (Y.bin rfl rfl rfl (br_eq32 (y := 0))) ?_
  refine TL.valG rfl rfl rfl (Y.move rfl rfl) ?_
  refine TL.valG rfl rfl rfl (Y.bin rfl rfl rfl (br_eq32 (y := 1))) ?_
  refine TL.valG rfl rfl rfl (Y.neBool rfl Try.underlying4 rfl rfl) ?_
  refine TL.is false (by (have := hF.tagged; by_cases e1 : n32 l 0 = 0 <;> by_cases e2 : kd = 1 <;> simp_all <;> rw [beq_eq_false_iff_ne.2 e1, beq_eq_false_iff_ne.2 e2])) ?_
  refine TL.val rfl rfl rfl (Y.pick_f rfl rfl rfl) ?_
  refine TL.nil ?_
  refine TQ.next ?_
  refine TC.cond_f rfl ?_
  refine TC.skip ?_
  refine TQ.next ?_
  refine TC.seq ?_
  refine TC.seq ?_
  refine TC.region ?_
  refine TL.val rfl rfl rfl (Y.move rfl rfl) ?_
  refine TL.val rfl rfl rfl (Y.bin rfl rfl rfl (br_leN (n := 2))) ?_
  refine TL.is false (by (subst hkd; decide)) ?_
  refine TL.val rfl rfl rfl (Y.move rfl rfl) ?_
  refine TL.not rfl rfl rfl ?_
  refine TL.not rfl rfl rfl ?_
  refine TL.not rfl rfl rfl ?_
  refine TL.not rfl rfl rfl ?_
  refine TL.not rfl rfl rfl ?_
  refine TL.val rfl rfl rfl (Y.pick_f rfl rfl rfl) ?_
  refine TL.nil ?_
  refine TQ.next ?_
  refine TC.cond_f rfl ?_
  refine TC.skip ?_
  refine TQ.next ?_
  refine TC.seq ?_
  refine TC.block ?_
  refine TC.seq ?_
  refine TC.region ?_
  refine TL.val rfl rfl rfl (Y.move rfl rfl) ?_
  refine TL.val rfl rfl rfl (Y.bin rfl rfl rfl (br_eq32 (y := 1))) ?_
  refine TL.is false (by (subst hkd; decide)) ?_
  refine TL.val rfl rfl rfl (Y.assign rfl rfl) ?_
  refine TL.nil ?_
  refine TQ.next ?_
  refine TC.cond_f rfl ?_
  refine TC.seq ?_
  refine TC.region ?_
  refine TL.val rfl rfl rfl (Y.move rfl rfl) ?_
  refine TL.val rfl rfl rfl (Y.move rfl rfl) ?_
  refine TL.val rfl rfl rfl (Y.nilCheck rfl rfl) ?_
  refine TL.val rfl rfl rfl (by first | exact Y.fieldAddrJ rfl fo68_0 rfl nqq | exact Y.fieldAddr rfl fo68_0 rfl nqq) ?_
  refine TL.val rfl rfl rfl (Y.load rfl sc22 rfl cel32) ?_
  refine TL.as (v32 S.tag) (by rfl) ?_
  refine TL.val rfl rfl rfl (Y.bin rfl rfl rfl (br_ne32)) ?_
  refine TL.is false (by (simpa using ht)) ?_
  refine TL.val rfl rfl rfl (Y.assign rfl rfl) ?_
  refine TL.nil ?_
  refine TQ.next ?_
  refine TC.cond_f rfl ?_
  refine TC.seq ?_
  refine TC.region ?_
  refine TL.val rfl rfl rfl (Y.move rfl rfl) ?_
  refine TL.val rfl rfl rfl (Y.bin rfl rfl rfl (br_eq32 (y := 2))) ?_
  refine TL.is false (by (subst hkd; decide)) ?_
  refine TL.val rfl rfl rfl (Y.assign rfl rfl) ?_
  refine TL.nil ?_
  refine TQ.next ?_
  refine TC.cond_f rfl ?_
  refine TC.seq ?_
  refine TC.region ?_
  refine TL.val rfl rfl rfl (Y.move rfl rfl) ?_
  refine TL.val rfl rfl rfl (Y.bin rfl rfl rfl (br_eq32 (y := 3))) ?_
  refine TL.is false (by (subst hkd; decide)) ?_
  refine TL.val rfl rfl rfl (Y.assign rfl rfl) ?_
  refine TL.nil ?_
  refine TQ.next ?_
  refine TC.cond_f rfl ?_
  refine TC.seq ?_
  refine TC.region ?_
  refine TL.val rfl rfl rfl (Y.move rfl rfl) ?_
  refine TL.val rfl rfl rfl (Y.bin rfl rfl rfl (br_eq32 (y := 4))) ?_
  refine TL.is true (by (subst hkd; decide)) ?_
  refine TL.val rfl rfl rfl (Y.assign rfl rfl) ?_
  refine TL.nil ?_
  refine TQ.next ?_
  refine TC.cond_t rfl ?_
  refine TC.seq ?_
  refine TC.seq ?_
  refine TC.region ?_
  refine TL.val rfl rfl rfl (Y.move rfl rfl) ?_
  refine TL.val rfl rfl rfl (Y.nilCheck rfl rfl) ?_
  refine TL.val rfl rfl rfl (by first | exact Y.fieldAddrJ rfl fo68_3 rfl nqq | exact Y.fieldAddr rfl fo68_3 rfl nqq) ?_
  refine TL.val rfl rfl rfl (Y.load rfl sc3 rfl celN) ?_
  refine TL.as (vN S.state) (by rfl) ?_
  refine TL.nil ?_
  refine TQ.next ?_
  refine TC.block ?_
  refine TC.seq ?_
  refine TC.region ?_
  refine TL.val rfl rfl rfl (Y.bin rfl rfl rfl (br_eqN (n := 2))) ?_
  refine TL.is false (by (simpa using hs2)) ?_
  refine TL.val rfl rfl rfl (Y.assign rfl rfl) ?_
  refine TL.nil ?_
  refine TQ.next ?_
  refine TC.cond_f rfl ?_
  refine TC.seq ?_
  refine TC.region ?_
  refine TL.val rfl rfl rfl (Y.bin rfl rfl rfl (br_eqN (n := 3))) ?_
  refine TL.is false (by (simpa using hs3)) ?_
  refine TL.val rfl rfl rfl (Y.assign rfl rfl) ?_
  refine TL.nil ?_
  refine TQ.next ?_
  refine TC.cond_f rfl ?_
  refine TC.seq ?_
  refine TC.region ?_
  refine TL.val rfl rfl rfl (Y.assign rfl rfl) ?_
  refine TL.val rfl rfl rfl (Y.assign rfl rfl) ?_
  refine TL.val rfl rfl rfl (Y.assign rfl rfl) ?_
  refine TL.nil ?_
  refine TQ.next ?_
  refine TC.ret ?_
  refine TQ.block_ret ?_
  refine TQ.then_ret ?_
  refine TQ.block_ret ?_
  refine TQ.then_ret ?_
  refine TQ.retE (resL rfl (Res.tmp rfl (Res.tmp rfl (Res.tmp rfl Res.nil)))) (⟨rfl, rfl⟩) ?_
  exact ett

theorem H_abort (kd : UInt32) (hF : Formed l kd) (hkd : kd = 7) (ht : n32 l 0 = S.tag) (L : List SA) : Fn Try.prog 12 [pt b 0, .slice a n cap, vI now] (aB b p S :: SA.rds 1 (.slice a n cap) n (l.map v8) :: L) (fun v L' => v = noOut 0 ∧ L' = aB b p ({ S.clocked now with state := 4, tset := false }) :: SA.rds 1 (.slice a n cap) n (l.map v8) :: L) := by
  have hlen := hF.len
  refine Fn.of (N := 160) Try.func12 rfl rfl ?_
  intro Xh
  refine TC.seq ?_
  refine TC.region ?_
  refine TL.val rfl rfl rfl (Y.assign rfl rfl) ?_
  refine TL.val rfl rfl rfl (Y.assign rfl rfl) ?_
  refine TL.val rfl rfl rfl (Y.assign rfl rfl) ?_
  refine TL.nil ?_
  refine TQ.next ?_
  refine TC.seq ?_
  refine TC.seq ?_
  refine TC.region ?_
  refine TL.val rfl rfl rfl (Y.move rfl rfl) ?_
  refine TL.val rfl rfl rfl (by first | exact Y.eqNilP rfl Try.underlying26 rfl rfl | exact Y.eqNil0 rfl Try.underlying26 rfl rfl) ?_
  refine TL.nil ?_
  refine TQ.next ?_
  refine TC.cond_f rfl ?_
  refine TC.skip ?_
  refine TQ.next ?_
  refine TC.seq ?_
  refine TC.region ?_
  refine TL.val rfl rfl rfl (Y.move rfl rfl) ?_
  refine TL.val rfl rfl rfl (Y.move rfl rfl) ?_
  refine TL.val rfl rfl rfl (Y.nilCheck rfl rfl) ?_
  refine TL.val rfl rfl rfl (by first | exact Y.fieldAddrJ rfl fo68_11 rfl nqq | exact Y.fieldAddr rfl fo68_11 rfl nqq) ?_
  refine TL.val rfl rfl rfl (Y.load rfl sc2 rfl celN) ?_
  refine TL.as (vI S.clock) (by rfl) ?_
  refine TL.val rfl rfl rfl (Y.move rfl rfl) ?_
  refine TL.val rfl rfl rfl (Y.maxI rfl rfl rfl) ?_
  refine TL.as (vI (max S.clock now)) (by rfl) ?_
  refine TL.val rfl rfl rfl (Y.nilCheck rfl rfl) ?_
  refine TL.val rfl rfl rfl (by first | exact Y.fieldAddrJ rfl fo68_11 rfl nqq | exact Y.fieldAddr rfl fo68_11 rfl nqq) ?_
  refine TL.eff0 rfl rfl (X.store (cs' := asC p (S.clocked now)) rfl (by kernel_rfl) rfl rfl rfl pul (by show 11 < 17; decide) rfl) ?_
  rintro _ _ rfl
  refine TL.nil ?_
  refine TQ.next ?_
  refine TC.seq ?_
  refine TC.region ?_
  refine TL.val rfl rfl rfl (Y.move rfl rfl) ?_
  refine TL.eff rfl rfl rfl (X.call rfl Try.func26 (by kernel_rfl) rfl rfl (Fn.preE (by repeat first | (with_reducible apply Ent.refl) | (apply Ent.cons; case h => first | (with_reducible (repeat first | apply Pull.here | apply Pull.there); done) | (repeat first | apply Pull.here | apply Pull.there))) (rd.New_fn a n cap l hn hl _))) ?_
  rintro _ _ ⟨p28, rfl, rfl⟩
  refine TL.val rfl rfl rfl (Y.assign rfl rfl) ?_
  refine TL.nil ?_
  refine TQ.next ?_
  refine TC.seq ?_
  refine TC.region ?_
  refine TL.val rfl rfl rfl (Y.move rfl rfl) ?_
  refine TL.eff rfl rfl rfl (X.call rfl Try.func27 (by kernel_rfl) rfl rfl (Fn.preE (by repeat first | (with_reducible apply Ent.refl) | (apply Ent.cons; case h => first | (with_reducible (repeat first | apply Pull.here | apply Pull.there); done) | (repeat first | apply Pull.here | apply Pull.there))) (u32_ok p28 l (by omega) _))) ?_
  rintro _ _ ⟨rfl, rfl⟩
  rw [show num (l.take 4) = n32 l 0 from rfl]
  refine TL.val rfl rfl rfl (Y.move rfl rfl) ?_
  refine TL.eff rfl rfl rfl (X.call rfl Try.func27 (by kernel_rfl) rfl rfl (Fn.preE (by repeat first | (with_reducible apply Ent.refl) | (apply Ent.cons; case h => first | (with_reducible (repeat first | apply Pull.here | apply Pull.there); done) | (repeat first | apply Pull.here | apply Pull.there))) (u32_ok p28 (l.drop 4) (by rw [List.length_drop]; omega) _))) ?_
  rintro _ _ ⟨rfl, rfl⟩
  rw [show num ((l.drop 4).take 4) = n32 l 4 from rfl, List.drop_drop]
  refine TL.val rfl rfl rfl (Y.assign rfl rfl) ?_
  refine TL.val rfl rfl rfl (Y.assign rfl rfl) ?_
  refine TL.nil ?_
  refine TQ.next ?_
  refine TC.seq ?_
  refine TC.region ?_
  refine TL.val rfl rfl rfl (Y.move rfl rfl) ?_
  refine TL.val rfl rfl rfl (Y.bin rfl rfl rfl (br_shr32 (n := 24))) ?_
  refine TL.as (v32 kd) (by (rw [← hF.kind])) ?_
  refine TL.val rfl rfl rfl (Y.assign rfl rfl) ?_
  refine TL.nil ?_
  refine TQ.next ?_
  refine TC.seq ?_
  refine TC.seq ?_
  refine TC.region ?_
  refine TL.val rfl rfl rfl (Y.move rfl rfl) ?_
  refine TL.eff rfl rfl rfl (X.call rfl Try.func28 (by kernel_rfl) rfl rfl (Fn.preE (by repeat first | (with_reducible apply Ent.refl) | (apply Ent.cons; case h => first | (with_reducible (repeat first | apply Pull.here | apply Pull.there); done) | (repeat first | apply Pull.here | apply Pull.there))) (rd.Bad_fn _ _ _ _))) ?_
  rintro _ _ ⟨rfl, rfl⟩
  refine TL.val rfl rfl rfl (Y.move rfl rfl) ?_
  refine TL.valG rfl rfl rfl (Y.move rfl rfl) ?_
  refine TL.valG rfl rfl rfl (Y.bin rfl rfl rfl (br_and32 (y := 16777215))) ?_
  refine TL.valG rfl rfl rfl (Y.bin rfl rfl rfl (br_ne32 (y := 0))) ?_
  refine TL.is false (by (simpa using hF.low)) ?_
  refine TL.val rfl rfl rfl (Y.pick_f rfl rfl rfl) ?_
  refine TL.val rfl rfl rfl (Y.move rfl rfl) ?_
  refine TL.valG rfl rfl rfl (Y.move rfl rfl) ?_
  refine TL.valG rfl rfl rfl (Y.conv rfl Try.underlying22 Try.underlying5 rfl (cv_32_8)) ?_
  refine TL.valG rfl rfl rfl (Y.move rfl rfl) ?_
  refine TL.effG rfl rfl rfl (X.call rfl Try.func30 (by kernel_rfl) rfl rfl (Fn.preE (by repeat first | (with_reducible apply Ent.refl) | (apply Ent.cons; case h => first | (with_reducible (repeat first | apply Pull.here | apply Pull.there); done) | (repeat first | apply Pull.here | apply Pull.there))) (rd.Left_fn _ _ _ _))) ?_
  rintro _ _ ⟨rfl, rfl⟩
  refine TL.as (vN (l.length - 8)) (by (rw [List.length_drop])) ?_
  refine TL.effG rfl rfl rfl (X.call rfl Try.func29 (by kernel_rfl) rfl rfl (Fn.preE (by repeat first | (with_reducible apply Ent.refl) | (apply Ent.cons; case h => first | (with_reducible (repeat first | apply Pull.here | apply Pull.there); done) | (repeat first | apply Pull.here | apply Pull.there))) (fits_fn kd.toUInt8 (l.length - 8) (by omega) _))) ?_
  rintro _ _ ⟨rfl, rfl⟩
  refine TL.valG rfl rfl rfl (Y.not rfl rfl) ?_
  refine TL.is false (by (rw [hF.fits]; rfl)) ?_
  refine TL.val rfl rfl rfl (Y.pick_f rfl rfl rfl) ?_
  refine TL.val rfl rfl rfl (Y.move rfl rfl) ?_
  refine TL.valG rfl rfl rfl (Y.move rfl rfl) ?_
  refine TL.valG rfl rfl rfl (Y.bin rfl rfl rfl (br_eq32 (y := 0))) ?_
  refine TL.valG rfl rfl rfl (Y.move rfl rfl) ?_
  refine TL.valG rfl rfl rfl (Y.bin rfl rfl rfl (br_eq32 (y := 1))) ?_
  refine TL.valG rfl rfl rfl (Y.neBool rfl Try.underlying4 rfl rfl) ?_
  refine TL.is false (by (have := hF.tagged; by_cases e1 : n32 l 0 = 0 <;> by_cases e2 : kd = 1 <;> simp_all <;> rw [beq_eq_false_iff_ne.2 e1, beq_eq_false_iff_ne.2 e2])) ?_
  refine TL.val rfl rfl rfl (Y.pick_f rfl rfl rfl) ?_
  refine TL.nil ?_
  refine TQ.next ?_
  refine TC.cond_f rfl ?_
  refine TC.skip ?_
  refine TQ.next ?_
  refine TC.seq ?_
  refine TC.seq ?_
  refine TC.region ?_
  refine TL.val rfl rfl rfl (Y.move rfl rfl) ?_
  refine TL.val rfl rfl rfl (Y.bin rfl rfl rfl (br_leN (n := 2))) ?_
  refine TL.is false (by (subst hkd; decide)) ?_
  refine TL.val rfl rfl rfl (Y.move rfl rfl) ?_
  refine TL.not rfl rfl rfl ?_
  refine TL.not rfl rfl rfl ?_
  refine TL.not rfl rfl rfl ?_
  refine TL.not rfl rfl rfl ?_
  refine TL.not rfl rfl rfl ?_
  refine TL.val rfl rfl rfl (Y.pick_f rfl rfl rfl) ?_
  refine TL.nil ?_
  refine TQ.next ?_
  refine TC.cond_f rfl ?_
  refine TC.skip ?_
  refine TQ.next ?_
  refine TC.seq ?_
  refine TC.block ?_
  refine TC.seq ?_
  refine TC.region ?_
  refine TL.val rfl rfl rfl (Y.move rfl rfl) ?_
  refine TL.val rfl rfl rfl (Y.bin rfl rfl rfl (br_eq32 (y := 1))) ?_
  refine TL.is false (by (subst hkd; decide)) ?_
  refine TL.val rfl rfl rfl (Y.assign rfl rfl) ?_
  refine TL.nil ?_
  refine TQ.next ?_
  refine TC.cond_f rfl ?_
  refine TC.seq ?_
  refine TC.region ?_
  refine TL.val rfl rfl rfl (Y.move rfl rfl) ?_
  refine TL.val rfl rfl rfl (Y.move rfl rfl) ?_
  refine TL.val rfl rfl rfl (Y.nilCheck rfl rfl) ?_
  refine TL.val rfl rfl rfl (by first | exact Y.fieldAddrJ rfl fo68_0 rfl nqq | exact Y.fieldAddr rfl fo68_0 rfl nqq) ?_
  refine TL.val rfl rfl rfl (Y.load rfl sc22 rfl cel32) ?_
  refine TL.as (v32 S.tag) (by rfl) ?_
  refine TL.val rfl rfl rfl (Y.bin rfl rfl rfl (br_ne32)) ?_
  refine TL.is false (by (simpa using ht)) ?_
  refine TL.val rfl rfl rfl (Y.assign rfl rfl) ?_
  refine TL.nil ?_
  refine TQ.next ?_
  refine TC.cond_f rfl ?_
  refine TC.seq ?_
  refine TC.region ?_
  refine TL.val rfl rfl rfl (Y.move rfl rfl) ?_
  refine TL.val rfl rfl rfl (Y.bin rfl rfl rfl (br_eq32 (y := 2))) ?_
  refine TL.is false (by (subst hkd; decide)) ?_
  refine TL.val rfl rfl rfl (Y.assign rfl rfl) ?_
  refine TL.nil ?_
  refine TQ.next ?_
  refine TC.cond_f rfl ?_
  refine TC.seq ?_
  refine TC.region ?_
  refine TL.val rfl rfl rfl (Y.move rfl rfl) ?_
  refine TL.val rfl rfl rfl (Y.bin rfl rfl rfl (br_eq32 (y := 3))) ?_
  refine TL.is false (by (subst hkd; decide)) ?_
  refine TL.val rfl rfl rfl (Y.assign rfl rfl) ?_
  refine TL.nil ?_
  refine TQ.next ?_
  refine TC.cond_f rfl ?_
  refine TC.seq ?_
  refine TC.region ?_
  refine TL.val rfl rfl rfl (Y.move rfl rfl) ?_
  refine TL.val rfl rfl rfl (Y.bin rfl rfl rfl (br_eq32 (y := 4))) ?_
  refine TL.is false (by (subst hkd; decide)) ?_
  refine TL.val rfl rfl rfl (Y.assign rfl rfl) ?_
  refine TL.nil ?_
  refine TQ.next ?_
  refine TC.cond_f rfl ?_
  refine TC.seq ?_
  refine TC.region ?_
  refine TL.val rfl rfl rfl (Y.move rfl rfl) ?_
  refine TL.val rfl rfl rfl (Y.bin rfl rfl rfl (br_eq32 (y := 7))) ?_
  refine TL.is true (by (subst hkd; decide)) ?_
  refine TL.val rfl rfl rfl (Y.assign rfl rfl) ?_
  refine TL.nil ?_
  refine TQ.next ?_
  refine TC.cond_t rfl ?_
  refine TC.seq ?_
  refine TC.region ?_
  refine TL.val rfl rfl rfl (Y.move rfl rfl) ?_
  refine TL.val rfl rfl rfl (Y.move rfl rfl) ?_
  refine TL.val rfl rfl rfl (Y.nilCheck rfl rfl) ?_
  refine TL.val rfl rfl rfl (by first | exact Y.fieldAddrJ rfl fo68_3 rfl nqq | exact Y.fieldAddr rfl fo68_3 rfl nqq) ?_
  refine TL.eff0 rfl rfl (X.store (cs' := asC p { S.clocked now with state := 4 }) rfl (by kernel_rfl) rfl rfl rfl pul (by show 3 < 17; decide) rfl) ?_
  rintro _ _ rfl
  refine TL.val rfl rfl rfl (Y.nilCheck rfl rfl) ?_
  refine TL.val rfl rfl rfl (by first | exact Y.fieldAddrJ rfl fo68_12 rfl nqq | exact Y.fieldAddr rfl fo68_12 rfl nqq) ?_
  refine TL.val rfl rfl rfl (by first | exact Y.fieldAddrJ rfl fo66_0 rfl nqq | exact Y.fieldAddr rfl fo66_0 rfl nqq) ?_
  refine TL.eff0 rfl rfl (X.store (cs' := asC p { S.clocked now with state := 4, tset := false }) rfl (by kernel_rfl) rfl rfl rfl pul (by show 12 < 17; decide) rfl) ?_
  rintro _ _ rfl
  refine TL.nil ?_
  refine TQ.next ?_
  refine TC.seq ?_
  refine TC.region ?_
  refine TL.val rfl rfl rfl (Y.assign rfl rfl) ?_
  refine TL.val rfl rfl rfl (Y.assign rfl rfl) ?_
  refine TL.val rfl rfl rfl (Y.assign rfl rfl) ?_
  refine TL.nil ?_
  refine TQ.next ?_
  refine TC.ret ?_
  refine TQ.block_ret ?_
  refine TQ.then_ret ?_
  refine TQ.retE (resL rfl (Res.tmp rfl (Res.tmp rfl (Res.tmp rfl Res.nil)))) (⟨rfl, rfl⟩) ?_
  exact ett

theorem H_shut5 (kd : UInt32) (hF : Formed l kd) (hkd : kd = 5) (ht : n32 l 0 = S.tag) (hs : S.state ≠ 3) (L : List SA) : Fn Try.prog 12 [pt b 0, .slice a n cap, vI now] (aB b p S :: SA.rds 1 (.slice a n cap) n (l.map v8) :: L) (fun v L' => v = noOut 9 ∧ L' = aB b p (S.clocked now) :: SA.rds 1 (.slice a n cap) n (l.map v8) :: L) := by
  have hlen := hF.len
  refine Fn.of (N := 160) Try.func12 rfl rfl ?_
  intro Xh
  refine TC.seq ?_
  refine TC.region ?_
  refine TL.val rfl rfl rfl (Y.assign rfl rfl) ?_
  refine TL.val rfl rfl rfl (Y.assign rfl rfl) ?_
  refine TL.val rfl rfl rfl (Y.assign rfl rfl) ?_
  refine TL.nil ?_
  refine TQ.next ?_
  refine TC.seq ?_
  refine TC.seq ?_
  refine TC.region ?_
  refine TL.val rfl rfl rfl (Y.move rfl rfl) ?_
  refine TL.val rfl rfl rfl (by first | exact Y.eqNilP rfl Try.underlying26 rfl rfl | exact Y.eqNil0 rfl Try.underlying26 rfl rfl) ?_
  refine TL.nil ?_
  refine TQ.next ?_
  refine TC.cond_f rfl ?_
  refine TC.skip ?_
  refine TQ.next ?_
  refine TC.seq ?_
  refine TC.region ?_
  refine TL.val rfl rfl rfl (Y.move rfl rfl) ?_
  refine TL.val rfl rfl rfl (Y.move rfl rfl) ?_
  refine TL.val rfl rfl rfl (Y.nilCheck rfl rfl) ?_
  refine TL.val rfl rfl rfl (by first | exact Y.fieldAddrJ rfl fo68_11 rfl nqq | exact Y.fieldAddr rfl fo68_11 rfl nqq) ?_
  refine TL.val rfl rfl rfl (Y.load rfl sc2 rfl celN) ?_
  refine TL.as (vI S.clock) (by rfl) ?_
  refine TL.val rfl rfl rfl (Y.move rfl rfl) ?_
  refine TL.val rfl rfl rfl (Y.maxI rfl rfl rfl) ?_
  refine TL.as (vI (max S.clock now)) (by rfl) ?_
  refine TL.val rfl rfl rfl (Y.nilCheck rfl rfl) ?_
  refine TL.val rfl rfl rfl (by first | exact Y.fieldAddrJ rfl fo68_11 rfl nqq | exact Y.fieldAddr rfl fo68_11 rfl nqq) ?_
  refine TL.eff0 rfl rfl (X.store (cs' := asC p (S.clocked now)) rfl (by kernel_rfl) rfl rfl rfl pul (by show 11 < 17; decide) rfl) ?_
  rintro _ _ rfl
  refine TL.nil ?_
  refine TQ.next ?_
  refine TC.seq ?_
  refine TC.region ?_
  refine TL.val rfl rfl rfl (Y.move rfl rfl) ?_
  refine TL.eff rfl rfl rfl (X.call rfl Try.func26 (by kernel_rfl) rfl rfl (Fn.preE (by repeat first | (with_reducible apply Ent.refl) | (apply Ent.cons; case h => first | (with_reducible (repeat first | apply Pull.here | apply Pull.there); done) | (repeat first | apply Pull.here | apply Pull.there))) (rd.New_fn a n cap l hn hl _))) ?_
  rintro _ _ ⟨p28, rfl, rfl⟩
  refine TL.val rfl rfl rfl (Y.assign rfl rfl) ?_
  refine TL.nil ?_
  refine TQ.next ?_
  refine TC.seq ?_
  refine TC.region ?_
  refine TL.val rfl rfl rfl (Y.move rfl rfl) ?_
  refine TL.eff rfl rfl rfl (X.call rfl Try.func27 (by kernel_rfl) rfl rfl (Fn.preE (by repeat first | (with_reducible apply Ent.refl) | (apply Ent.cons; case h => first | (with_reducible (repeat first | apply Pull.here | apply Pull.there); done) | (repeat first | apply Pull.here | apply Pull.there))) (u32_ok p28 l (by omega) _))) ?_
  rintro _ _ ⟨rfl, rfl⟩
  rw [show num (l.take 4) = n32 l 0 from rfl]
  refine TL.val rfl rfl rfl (Y.move rfl rfl) ?_
  refine TL.eff rfl rfl rfl (X.call rfl Try.func27 (by kernel_rfl) rfl rfl (Fn.preE (by repeat first | (with_reducible apply Ent.refl) | (apply Ent.cons; case h => first | (with_reducible (repeat first | apply Pull.here | apply Pull.there); done) | (repeat first | apply Pull.here | apply Pull.there))) (u32_ok p28 (l.drop 4) (by rw [List.length_drop]; omega) _))) ?_
  rintro _ _ ⟨rfl, rfl⟩
  rw [show num ((l.drop 4).take 4) = n32 l 4 from rfl, List.drop_drop]
  refine TL.val rfl rfl rfl (Y.assign rfl rfl) ?_
  refine TL.val rfl rfl rfl (Y.assign rfl rfl) ?_
  refine TL.nil ?_
  refine TQ.next ?_
  refine TC.seq ?_
  refine TC.region ?_
  refine TL.val rfl rfl rfl (Y.move rfl rfl) ?_
  refine TL.val rfl rfl rfl (Y.bin rfl rfl rfl (br_shr32 (n := 24))) ?_
  refine TL.as (v32 kd) (by (rw [← hF.kind])) ?_
  refine TL.val rfl rfl rfl (Y.assign rfl rfl) ?_
  refine TL.nil ?_
  refine TQ.next ?_
  refine TC.seq ?_
  refine TC.seq ?_
  refine TC.region ?_
  refine TL.val rfl rfl rfl (Y.move rfl rfl) ?_
  refine TL.eff rfl rfl rfl (X.call rfl Try.func28 (by kernel_rfl) rfl rfl (Fn.preE (by repeat first | (with_reducible apply Ent.refl) | (apply Ent.cons; case h => first | (with_reducible (repeat first | apply Pull.here | apply Pull.there); done) | (repeat first | apply Pull.here | apply Pull.there))) (rd.Bad_fn _ _ _ _))) ?_
  rintro _ _ ⟨rfl, rfl⟩
  refine TL.val rfl rfl rfl (Y.move rfl rfl) ?_
  refine TL.valG rfl rfl rfl (Y.move rfl rfl) ?_
  refine TL.valG rfl rfl rfl (Y.bin rfl rfl rfl (br_and32 (y := 16777215))) ?_
  refine TL.valG rfl rfl rfl (Y.bin rfl rfl rfl (br_ne32 (y := 0))) ?_
  refine TL.is false (by (simpa using hF.low)) ?_
  refine TL.val rfl rfl rfl (Y.pick_f rfl rfl rfl) ?_
  refine TL.val rfl rfl rfl (Y.move rfl rfl) ?_
  refine TL.valG rfl rfl rfl (Y.move rfl rfl) ?_
  refine TL.valG rfl rfl rfl (Y.conv rfl Try.underlying22 Try.underlying5 rfl (cv_32_8)) ?_
  refine TL.valG rfl rfl rfl (Y.move rfl rfl) ?_
  refine TL.effG rfl rfl rfl (X.call rfl Try.func30 (by kernel_rfl) rfl rfl (Fn.preE (by repeat first | (with_reducible apply Ent.refl) | (apply Ent.cons; case h => first | (with_reducible (repeat first | apply Pull.here | apply Pull.there); done) | (repeat first | apply Pull.here | apply Pull.there))) (rd.Left_fn _ _ _ _))) ?_
  rintro _ _ ⟨rfl, rfl⟩
  refine TL.as (vN (l.length - 8)) (by (rw [List.length_drop])) ?_
  refine TL.effG rfl rfl rfl (X.call rfl Try.func29 (by kernel_rfl) rfl rfl (Fn.preE (by repeat first | (with_reducible apply Ent.refl) | (apply Ent.cons; case h => first | (with_reducible (repeat first | apply Pull.here | apply Pull.there); done) | (repeat first | apply Pull.here | apply Pull.there))) (fits_fn kd.toUInt8 (l.length - 8) (by omega) _))) ?_
  rintro _ _ ⟨rfl, rfl⟩
  refine TL.valG rfl rfl rfl (Y.not rfl rfl) ?_
  refine TL.is false (by (rw [hF.fits]; rfl)) ?_
  refine TL.val rfl rfl rfl (Y.pick_f rfl rfl rfl) ?_
  refine TL.val rfl rfl rfl (Y.move rfl rfl) ?_
  refine TL.valG rfl rfl rfl (Y.move rfl rfl) ?_
  refine TL.valG rfl rfl rfl (Y.bin rfl rfl rfl (br_eq32 (y := 0))) ?_
  refine TL.valG rfl rfl rfl (Y.move rfl rfl) ?_
  refine TL.valG rfl rfl rfl (Y.bin rfl rfl rfl (br_eq32 (y := 1))) ?_
  refine TL.valG rfl rfl rfl (Y.neBool rfl Try.underlying4 rfl rfl) ?_
  refine TL.is false (by (have := hF.tagged; by_cases e1 : n32 l 0 = 0 <;> by_cases e2 : kd = 1 <;> simp_all <;> rw [beq_eq_false_iff_ne.2 e1, beq_eq_false_iff_ne.2 e2])) ?_
  refine TL.val rfl rfl rfl (Y.pick_f rfl rfl rfl) ?_
  refine TL.nil ?_
  refine TQ.next ?_
  refine TC.cond_f rfl ?_
  refine TC.skip ?_
  refine TQ.next ?_
  refine TC.seq ?_
  refine TC.seq ?_
  refine TC.region ?_
  refine TL.val rfl rfl rfl (Y.move rfl rfl) ?_
  refine TL.val rfl rfl rfl (Y.bin rfl rfl rfl (br_leN (n := 2))) ?_
  refine TL.is false (by (subst hkd; decide)) ?_
  refine TL.val rfl rfl rfl (Y.move rfl rfl) ?_
  refine TL.not rfl rfl rfl ?_
  refine TL.not rfl rfl rfl ?_
  refine TL.not rfl rfl rfl ?_
  refine TL.not rfl rfl rfl ?_
  refine TL.not rfl rfl rfl ?_
  refine TL.val rfl rfl rfl (Y.pick_f rfl rfl rfl) ?_
  refine TL.nil ?_
  refine TQ.next ?_
  refine TC.cond_f rfl ?_
  refine TC.skip ?_
  refine TQ.next ?_
  refine TC.seq ?_
  refine TC.block ?_
  refine TC.seq ?_
  refine TC.region ?_
  refine TL.val rfl rfl rfl (Y.move rfl rfl) ?_
  refine TL.val rfl rfl rfl (Y.bin rfl rfl rfl (br_eq32 (y := 1))) ?_
  refine TL.is false (by (subst hkd; decide)) ?_
  refine TL.val rfl rfl rfl (Y.assign rfl rfl) ?_
  refine TL.nil ?_
  refine TQ.next ?_
  refine TC.cond_f rfl ?_
  refine TC.seq ?_
  refine TC.region ?_
  refine TL.val rfl rfl rfl (Y.move rfl rfl) ?_
  refine TL.val rfl rfl rfl (Y.move rfl rfl) ?_
  refine TL.val rfl rfl rfl (Y.nilCheck rfl rfl) ?_
  refine TL.val rfl rfl rfl (by first | exact Y.fieldAddrJ rfl fo68_0 rfl nqq | exact Y.fieldAddr rfl fo68_0 rfl nqq) ?_
  refine TL.val rfl rfl rfl (Y.load rfl sc22 rfl cel32) ?_
  refine TL.as (v32 S.tag) (by rfl) ?_
  refine TL.val rfl rfl rfl (Y.bin rfl rfl rfl (br_ne32)) ?_
  refine TL.is false (by (simpa using ht)) ?_
  refine TL.val rfl rfl rfl (Y.assign rfl rfl) ?_
  refine TL.nil ?_
  refine TQ.next ?_
  refine TC.cond_f rfl ?_
  refine TC.seq ?_
  refine TC.region ?_
  refine TL.val rfl rfl rfl (Y.move rfl rfl) ?_
  refine TL.val rfl rfl rfl (Y.bin rfl rfl rfl (br_eq32 (y := 2))) ?_
  refine TL.is false (by (subst hkd; decide)) ?_
  refine TL.val rfl rfl rfl (Y.assign rfl rfl) ?_
  refine TL.nil ?_
  refine TQ.next ?_
  refine TC.cond_f rfl ?_
  refine TC.seq ?_
  refine TC.region ?_
  refine TL.val rfl rfl rfl (Y.move rfl rfl) ?_
  refine TL.val rfl rfl rfl (Y.bin rfl rfl rfl (br_eq32 (y := 3))) ?_
  refine TL.is false (by (subst hkd; decide)) ?_
  refine TL.val rfl rfl rfl (Y.assign rfl rfl) ?_
  refine TL.nil ?_
  refine TQ.next ?_
  refine TC.cond_f rfl ?_
  refine TC.seq ?_
  refine TC.region ?_
  refine TL.val rfl rfl rfl (Y.move rfl rfl) ?_
  refine TL.val rfl rfl rfl (Y.bin rfl rfl rfl (br_eq32 (y := 4))) ?_
  refine TL.is false (by (subst hkd; decide)) ?_
  refine TL.val rfl rfl rfl (Y.assign rfl rfl) ?_
  refine TL.nil ?_
  refine TQ.next ?_
  refine TC.cond_f rfl ?_
  refine TC.seq ?_
  refine TC.region ?_
  refine TL.val rfl rfl rfl (Y.move rfl rfl) ?_
  refine TL.val rfl rfl rfl (Y.bin rfl rfl rfl (br_eq32 (y := 7))) ?_
  refine TL.is false (by (subst hkd; decide)) ?_
  refine TL.val rfl rfl rfl (Y.assign rfl rfl) ?_
  refine TL.nil ?_
  refine TQ.next ?_
  refine TC.cond_f rfl ?_
  refine TC.seq ?_
  refine TC.region ?_
  refine TL.val rfl rfl rfl (Y.move rfl rfl) ?_
  refine TL.val rfl rfl rfl (Y.nilCheck rfl rfl) ?_
  refine TL.val rfl rfl rfl (by first | exact Y.fieldAddrJ rfl fo68_3 rfl nqq | exact Y.fieldAddr rfl fo68_3 rfl nqq) ?_
  refine TL.val rfl rfl rfl (Y.load rfl sc3 rfl celN) ?_
  refine TL.as (vN S.state) (by rfl) ?_
  refine TL.val rfl rfl rfl (Y.bin rfl rfl rfl (br_neN (n := 3))) ?_
  refine TL.is true (by (simpa using hs)) ?_
  refine TL.val rfl rfl rfl (Y.assign rfl rfl) ?_
  refine TL.nil ?_
  refine TQ.next ?_
  refine TC.cond_t rfl ?_
  refine TC.seq ?_
  refine TC.region ?_
  refine TL.val rfl rfl rfl (Y.assign rfl rfl) ?_
  refine TL.val rfl rfl rfl (Y.assign rfl rfl) ?_
  refine TL.val rfl rfl rfl (Y.assign rfl rfl) ?_
  refine TL.nil ?_
  refine TQ.next ?_
  refine TC.ret ?_
  refine TQ.block_ret ?_
  refine TQ.then_ret ?_
  refine TQ.retE (resL rfl (Res.tmp rfl (Res.tmp rfl (Res.tmp rfl Res.nil)))) (⟨rfl, rfl⟩) ?_
  exact ett

theorem H_shut6 (kd : UInt32) (hF : Formed l kd) (hkd : kd = 6) (ht : n32 l 0 = S.tag) (hs : S.state ≠ 3) (L : List SA) : Fn Try.prog 12 [pt b 0, .slice a n cap, vI now] (aB b p S :: SA.rds 1 (.slice a n cap) n (l.map v8) :: L) (fun v L' => v = noOut 9 ∧ L' = aB b p (S.clocked now) :: SA.rds 1 (.slice a n cap) n (l.map v8) :: L) := by
  have hlen := hF.len
  refine Fn.of (N := 160) Try.func12 rfl rfl ?_
  intro Xh
  refine TC.seq ?_
  refine TC.region ?_
  refine TL.val rfl rfl rfl (Y.assign rfl rfl) ?_
  refine TL.val rfl rfl rfl (Y.assign rfl rfl) ?_
  refine TL.val rfl rfl rfl (Y.assign rfl rfl) ?_
  refine TL.nil ?_
  refine TQ.next ?_
  refine TC.seq ?_
  refine TC.seq ?_
  refine TC.region ?_
  refine TL.val rfl rfl rfl (Y.move rfl rfl) ?_
  refine TL.val rfl rfl rfl (by first | exact Y.eqNilP rfl Try.underlying26 rfl rfl | exact Y.eqNil0 rfl Try.underlying26 rfl rfl) ?_
  refine TL.nil ?_
  refine TQ.next ?_
  refine TC.cond_f rfl ?_
  refine TC.skip ?_
  refine TQ.next ?_
  refine TC.seq ?_
  refine TC.region ?_
  refine TL.val rfl rfl rfl (Y.move rfl rfl) ?_
  refine TL.val rfl rfl rfl (Y.move rfl rfl) ?_
  refine TL.val rfl rfl rfl (Y.nilCheck rfl rfl) ?_
  refine TL.val rfl rfl rfl (by first | exact Y.fieldAddrJ rfl fo68_11 rfl nqq | exact Y.fieldAddr rfl fo68_11 rfl nqq) ?_
  refine TL.val rfl rfl rfl (Y.load rfl sc2 rfl celN) ?_
  refine TL.as (vI S.clock) (by rfl) ?_
  refine TL.val rfl rfl rfl (Y.move rfl rfl) ?_
  refine TL.val rfl rfl rfl (Y.maxI rfl rfl rfl) ?_
  refine TL.as (vI (max S.clock now)) (by rfl) ?_
  refine TL.val rfl rfl rfl (Y.nilCheck rfl rfl) ?_
  refine TL.val rfl rfl rfl (by first | exact Y.fieldAddrJ rfl fo68_11 rfl nqq | exact Y.fieldAddr rfl fo68_11 rfl nqq) ?_
  refine TL.eff0 rfl rfl (X.store (cs' := asC p (S.clocked now)) rfl (by kernel_rfl) rfl rfl rfl pul (by show 11 < 17; decide) rfl) ?_
  rintro _ _ rfl
  refine TL.nil ?_
  refine TQ.next ?_
  refine TC.seq ?_
  refine TC.region ?_
  refine TL.val rfl rfl rfl (Y.move rfl rfl) ?_
  refine TL.eff rfl rfl rfl (X.call rfl Try.func26 (by kernel_rfl) rfl rfl (Fn.preE (by repeat first | (with_reducible apply Ent.refl) | (apply Ent.cons; case h => first | (with_reducible (repeat first | apply Pull.here | apply Pull.there); done) | (repeat first | apply Pull.here | apply Pull.there))) (rd.New_fn a n cap l hn hl _))) ?_
  rintro _ _ ⟨p28, rfl, rfl⟩
  refine TL.val rfl rfl rfl (Y.assign rfl rfl) ?_
  refine TL.nil ?_
  refine TQ.next ?_
  refine TC.seq ?_
  refine TC.region ?_
  refine TL.val rfl rfl rfl (Y.move rfl rfl) ?_
  refine TL.eff rfl rfl rfl (X.call rfl Try.func27 (by kernel_rfl) rfl rfl (Fn.preE (by repeat first | (with_reducible apply Ent.refl) | (apply Ent.cons; case h => first | (with_reducible (repeat first | apply Pull.here | apply Pull.there); done) | (repeat first | apply Pull.here | apply Pull.there))) (u32_ok p28 l (by omega) _))) ?_
  rintro _ _ ⟨rfl, rfl⟩
  rw [show num (l.take 4) = n32 l 0 from rfl]
  refine TL.val rfl rfl rfl (Y.move rfl rfl) ?_
  refine TL.eff rfl rfl rfl (X.call rfl Try.func27 (by kernel_rfl) rfl rfl (Fn.preE (by repeat first | (with_reducible apply Ent.refl) | (apply Ent.cons; case h => first | (with_reducible (repeat first | apply Pull.here | apply Pull.there); done) | (repeat first | apply Pull.here | apply Pull.there))) (u32_ok p28 (l.drop 4) (by rw [List.length_drop]; omega) _))) ?_
  rintro _ _ ⟨rfl, rfl⟩
  rw [show num ((l.drop 4).take 4) = n32 l 4 from rfl, List.drop_drop]
  refine TL.val rfl rfl rfl (Y.assign rfl rfl) ?_
  refine TL.val rfl rfl rfl (Y.assign rfl rfl) ?_
  refine TL.nil ?_
  refine TQ.next ?_
  refine TC.seq ?_
  refine TC.region ?_
  refine TL.val rfl rfl rfl (Y.move rfl rfl) ?_
  refine TL.val rfl rfl rfl (Y.bin rfl rfl rfl (br_shr32 (n := 24))) ?_
  refine TL.as (v32 kd) (by (rw [← hF.kind])) ?_
  refine TL.val rfl rfl rfl (Y.assign rfl rfl) ?_
  refine TL.nil ?_
  refine TQ.next ?_
  refine TC.seq ?_
  refine TC.seq ?_
  refine TC.region ?_
  refine TL.val rfl rfl rfl (Y.move rfl rfl) ?_
  refine TL.eff rfl rfl rfl (X.call rfl Try.func28 (by kernel_rfl) rfl rfl (Fn.preE (by repeat first | (with_reducible apply Ent.refl) | (apply Ent.cons; case h => first | (with_reducible (repeat first | apply Pull.here | apply Pull.there); done) | (repeat first | apply Pull.here | apply Pull.there))) (rd.Bad_fn _ _ _ _))) ?_
  rintro _ _ ⟨rfl, rfl⟩
  refine TL.val rfl rfl rfl (Y.move rfl rfl) ?_
  refine TL.valG rfl rfl rfl (Y.move rfl rfl) ?_
  refine TL.valG rfl rfl rfl (Y.bin rfl rfl rfl (br_and32 (y := 16777215))) ?_
  refine TL.valG rfl rfl rfl (Y.bin rfl rfl rfl (br_ne32 (y := 0))) ?_
  refine TL.is false (by (simpa using hF.low)) ?_
  refine TL.val rfl rfl rfl (Y.pick_f rfl rfl rfl) ?_
  refine TL.val rfl rfl rfl (Y.move rfl rfl) ?_
  refine TL.valG rfl rfl rfl (Y.move rfl rfl) ?_
  refine TL.valG rfl rfl rfl (Y.conv rfl Try.underlying22 Try.underlying5 rfl (cv_32_8)) ?_
  refine TL.valG rfl rfl rfl (Y.move rfl rfl) ?_
  refine TL.effG rfl rfl rfl (X.call rfl Try.func30 (by kernel_rfl) rfl rfl (Fn.preE (by repeat first | (with_reducible apply Ent.refl) | (apply Ent.cons; case h => first | (with_reducible (repeat first | apply Pull.here | apply Pull.there); done) | (repeat first | apply Pull.here | apply Pull.there))) (rd.Left_fn _ _ _ _))) ?_
  rintro _ _ ⟨rfl, rfl⟩
  refine TL.as (vN (l.length - 8)) (by (rw [List.length_drop])) ?_
  refine TL.effG rfl rfl rfl (X.call rfl Try.func29 (by kernel_rfl) rfl rfl (Fn.preE (by repeat first | (with_reducible apply Ent.refl) | (apply Ent.cons; case h => first | (with_reducible (repeat first | apply Pull.here | apply Pull.there); done) | (repeat first | apply Pull.here | apply Pull.there))) (fits_fn kd.toUInt8 (l.length - 8) (by omega) _))) ?_
  rintro _ _ ⟨rfl, rfl⟩
  refine TL.valG rfl rfl rfl (Y.not rfl rfl) ?_
  refine TL.is false (by (rw [hF.fits]; rfl)) ?_
  refine TL.val rfl rfl rfl (Y.pick_f rfl rfl rfl) ?_
  refine TL.val rfl rfl rfl (Y.move rfl rfl) ?_
  refine TL.valG rfl rfl rfl (Y.move rfl rfl) ?_
  refine TL.valG rfl rfl rfl (Y.bin rfl rfl rfl (br_eq32 (y := 0))) ?_
  refine TL.valG rfl rfl rfl (Y.move rfl rfl) ?_
  refine TL.valG rfl rfl rfl (Y.bin rfl rfl rfl (br_eq32 (y := 1))) ?_
  refine TL.valG rfl rfl rfl (Y.neBool rfl Try.underlying4 rfl rfl) ?_
  refine TL.is false (by (have := hF.tagged; by_cases e1 : n32 l 0 = 0 <;> by_cases e2 : kd = 1 <;> simp_all <;> rw [beq_eq_false_iff_ne.2 e1, beq_eq_false_iff_ne.2 e2])) ?_
  refine TL.val rfl rfl rfl (Y.pick_f rfl rfl rfl) ?_
  refine TL.nil ?_
  refine TQ.next ?_
  refine TC.cond_f rfl ?_
  refine TC.skip ?_
  refine TQ.next ?_
  refine TC.seq ?_
  refine TC.seq ?_
  refine TC.region ?_
  refine TL.val rfl rfl rfl (Y.move rfl rfl) ?_
  refine TL.val rfl rfl rfl (Y.bin rfl rfl rfl (br_leN (n := 2))) ?_
  refine TL.is false (by (subst hkd; decide)) ?_
  refine TL.val rfl rfl rfl (Y.move rfl rfl) ?_
  refine TL.not rfl rfl rfl ?_
  refine TL.not rfl rfl rfl ?_
  refine TL.not rfl rfl rfl ?_
  refine TL.not rfl rfl rfl ?_
  refine TL.not rfl rfl rfl ?_
  refine TL.val rfl rfl rfl (Y.pick_f rfl rfl rfl) ?_
  refine TL.nil ?_
  refine TQ.next ?_
  refine TC.cond_f rfl ?_
  refine TC.skip ?_
  refine TQ.next ?_
  refine TC.seq ?_
  refine TC.block ?_
  refine TC.seq ?_
  refine TC.region ?_
  refine TL.val rfl rfl rfl (Y.move rfl rfl) ?_
  refine TL.val rfl rfl rfl (Y.bin rfl rfl rfl (br_eq32 (y := 1))) ?_
  refine TL.is false (by (subst hkd; decide)) ?_
  refine TL.val rfl rfl rfl (Y.assign rfl rfl) ?_
  refine TL.nil ?_
  refine TQ.next ?_
  refine TC.cond_f rfl ?_
  refine TC.seq ?_
  refine TC.region ?_
  refine TL.val rfl rfl rfl (Y.move rfl rfl) ?_
  refine TL.val rfl rfl rfl (Y.move rfl rfl) ?_
  refine TL.val rfl rfl rfl (Y.nilCheck rfl rfl) ?_
  refine TL.val rfl rfl rfl (by first | exact Y.fieldAddrJ rfl fo68_0 rfl nqq | exact Y.fieldAddr rfl fo68_0 rfl nqq) ?_
  refine TL.val rfl rfl rfl (Y.load rfl sc22 rfl cel32) ?_
  refine TL.as (v32 S.tag) (by rfl) ?_
  refine TL.val rfl rfl rfl (Y.bin rfl rfl rfl (br_ne32)) ?_
  refine TL.is false (by (simpa using ht)) ?_
  refine TL.val rfl rfl rfl (Y.assign rfl rfl) ?_
  refine TL.nil ?_
  refine TQ.next ?_
  refine TC.cond_f rfl ?_
  refine TC.seq ?_
  refine TC.region ?_
  refine TL.val rfl rfl rfl (Y.move rfl rfl) ?_
  refine TL.val rfl rfl rfl (Y.bin rfl rfl rfl (br_eq32 (y := 2))) ?_
  refine TL.is false (by (subst hkd; decide)) ?_
  refine TL.val rfl rfl rfl (Y.assign rfl rfl) ?_
  refine TL.nil ?_
  refine TQ.next ?_
  refine TC.cond_f rfl ?_
  refine TC.seq ?_
  refine TC.region ?_
  refine TL.val rfl rfl rfl (Y.move rfl rfl) ?_
  refine TL.val rfl rfl rfl (Y.bin rfl rfl rfl (br_eq32 (y := 3))) ?_
  refine TL.is false (by (subst hkd; decide)) ?_
  refine TL.val rfl rfl rfl (Y.assign rfl rfl) ?_
  refine TL.nil ?_
  refine TQ.next ?_
  refine TC.cond_f rfl ?_
  refine TC.seq ?_
  refine TC.region ?_
  refine TL.val rfl rfl rfl (Y.move rfl rfl) ?_
  refine TL.val rfl rfl rfl (Y.bin rfl rfl rfl (br_eq32 (y := 4))) ?_
  refine TL.is false (by (subst hkd; decide)) ?_
  refine TL.val rfl rfl rfl (Y.assign rfl rfl) ?_
  refine TL.nil ?_
  refine TQ.next ?_
  refine TC.cond_f rfl ?_
  refine TC.seq ?_
  refine TC.region ?_
  refine TL.val rfl rfl rfl (Y.move rfl rfl) ?_
  refine TL.val rfl rfl rfl (Y.bin rfl rfl rfl (br_eq32 (y := 7))) ?_
  refine TL.is false (by (subst hkd; decide)) ?_
  refine TL.val rfl rfl rfl (Y.assign rfl rfl) ?_
  refine TL.nil ?_
  refine TQ.next ?_
  refine TC.cond_f rfl ?_
  refine TC.seq ?_
  refine TC.region ?_
  refine TL.val rfl rfl rfl (Y.move rfl rfl) ?_
  refine TL.val rfl rfl rfl (Y.nilCheck rfl rfl) ?_
  refine TL.val rfl rfl rfl (by first | exact Y.fieldAddrJ rfl fo68_3 rfl nqq | exact Y.fieldAddr rfl fo68_3 rfl nqq) ?_
  refine TL.val rfl rfl rfl (Y.load rfl sc3 rfl celN) ?_
  refine TL.as (vN S.state) (by rfl) ?_
  refine TL.val rfl rfl rfl (Y.bin rfl rfl rfl (br_neN (n := 3))) ?_
  refine TL.is true (by (simpa using hs)) ?_
  refine TL.val rfl rfl rfl (Y.assign rfl rfl) ?_
  refine TL.nil ?_
  refine TQ.next ?_
  refine TC.cond_t rfl ?_
  refine TC.seq ?_
  refine TC.region ?_
  refine TL.val rfl rfl rfl (Y.assign rfl rfl) ?_
  refine TL.val rfl rfl rfl (Y.assign rfl rfl) ?_
  refine TL.val rfl rfl rfl (Y.assign rfl rfl) ?_
  refine TL.nil ?_
  refine TQ.next ?_
  refine TC.ret ?_
  refine TQ.block_ret ?_
  refine TQ.then_ret ?_
  refine TQ.retE (resL rfl (Res.tmp rfl (Res.tmp rfl (Res.tmp rfl Res.nil)))) (⟨rfl, rfl⟩) ?_
  exact ett

end
end ac
end Go.Proofs.Ytomplpdeeomehaa
