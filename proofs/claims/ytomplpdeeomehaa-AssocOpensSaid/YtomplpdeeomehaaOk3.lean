/- The logic and the walks, in one text with others: part 3 of 6. -/
import Derived.Test.YtomplpdeeomehaaOk2
/- assoc: Handle, case by case, but for data and sack. -/
namespace Go.Proofs.Ytomplpdeeomehaa
set_option linter.unusedVariables false
set_option linter.unusedSimpArgs false
open Go.RowKit
namespace ac
open wr (be16 be32)
open rd (num rdB rdL rdV)
open Go.Proofs.Ytomplpdeeomehaa.ac.FxAsC Go.Proofs.Ytomplpdeeomehaa.ac.FxAsB Go.Proofs.Ytomplpdeeomehaa.ac.FxAsA Go.Proofs.Ytomplpdeeomehaa.sha.FxShaBlock Go.Proofs.Ytomplpdeeomehaa.rd.FxWireR
structure Formed (l : List UInt8) (kd : UInt32) : Prop where
  len : 8 ≤ l.length
  low : n32 l 4 &&& 16777215 = 0
  kind : shr32 (n32 l 4) 24 = kd
  fits : fitsB kd.toUInt8 (l.length - 8) = true
  tagged : decide (n32 l 0 = 0) = decide (kd = 1)
theorem Reads.tail8 {A : SA} {n cap k : Nat} {a : Option Addr} {l : List UInt8} (h : Reads A 1 (.slice a n cap) n (l.map v8)) (hk : k ≤ n) : Reads A 1 (cutV a cap k n 1) (n - k) ((l.drop k).map v8) := fun w O R hp => by
  have := (h w O R hp).drop (k := k) hk
  rw [List.map_drop]
  simpa [cutV, dropV] using this
abbrev noOut (e : Nat) : Value := .tuple #[.slice none 0 0, .slice none 0 0, vN e]
section
variable (b : Nat) (p : AP) (S : AS Msg) (a : Option Addr) (n cap : Nat) (l : List UInt8) (hn : l.length = n) (hl : n ≤ 140737488351232) (now : Int)
include hn hl

theorem H_short (h : l.length < 8) (L : List SA) : Fn Try.prog 12 [pt b 0, .slice a n cap, vI now] (aB b p S :: SA.rds 1 (.slice a n cap) n (l.map v8) :: L) (fun v L' => v = noOut 2 ∧ L' = aB b p (S.clocked now) :: SA.rds 1 (.slice a n cap) n (l.map v8) :: L) := by
  have hb : rdB 4 (rdL 4 l false) (rdB 4 l false) = true := by
    unfold rdB rdL
    by_cases h4 : l.length < 4
    · simp [rdB, h4]
    · simp [rdB, h4]; omega
  refine Fn.of (N := 160) Try.func12 rfl rfl ?_
  intro Xh
  refine TC.seq (TC.region ?_)
  refine TL.sg ?_
  refine TL.sg ?_
  refine TL.sg ?_
  refine TL.nil (TQ.next (TC.seq (TC.seq (TC.region ?_))))
  refine TL.mv ?_
  refine TL.val rfl rfl rfl (by first | exact Y.eqNilP rfl Try.underlying26 rfl rfl | exact Y.eqNil0 rfl Try.underlying26 rfl rfl) ?_
  refine TL.nil (TQ.next ?_)
  refine TC.cond_f rfl ?_
  refine TC.skip (TQ.next (TC.seq (TC.region ?_)))
  refine TL.mv ?_
  refine TL.mv ?_
  refine TL.nc ?_
  refine TL.val rfl rfl rfl (by first | exact Y.fieldAddrJ rfl fo68_11 rfl nqq | exact Y.fieldAddr rfl fo68_11 rfl nqq) ?_
  refine TL.val rfl rfl rfl (Y.load rfl sc2 rfl celN) ?_
  refine TL.as (vI S.clock) (by rfl) ?_
  refine TL.mv ?_
  refine TL.val rfl rfl rfl (Y.maxI rfl rfl rfl) ?_
  refine TL.as (vI (max S.clock now)) (by rfl) ?_
  refine TL.nc ?_
  refine TL.val rfl rfl rfl (by first | exact Y.fieldAddrJ rfl fo68_11 rfl nqq | exact Y.fieldAddr rfl fo68_11 rfl nqq) ?_
  refine TL.eff0 rfl rfl (X.store (cs' := asC p (S.clocked now)) rfl (by kernel_rfl) rfl rfl rfl pul (by show 11 < 17; decide) rfl) ?_
  rintro _ _ rfl
  refine TL.nil (TQ.next (TC.seq (TC.region ?_)))
  refine TL.mv ?_
  refine TL.eff rfl rfl rfl (X.cl rfl Try.func26 rfl (h := (rd.New_fn a n cap l hn hl _))) ?_
  rintro _ _ ⟨p28, rfl, rfl⟩
  refine TL.sg ?_
  refine TL.nil (TQ.next (TC.seq (TC.region ?_)))
  refine TL.mv ?_
  refine TL.eff rfl rfl rfl (X.cl rfl Try.func27 rfl (h := (rd.U32_fn _ _ _ _))) ?_
  rintro _ _ ⟨rfl, rfl⟩
  refine TL.mv ?_
  refine TL.eff rfl rfl rfl (X.cl rfl Try.func27 rfl (h := (rd.U32_fn _ _ _ _))) ?_
  rintro _ _ ⟨rfl, rfl⟩
  refine TL.sg ?_
  refine TL.sg ?_
  refine TL.nil (TQ.next (TC.seq (TC.region ?_)))
  refine TL.mv ?_
  refine TL.val rfl rfl rfl (Y.bin rfl rfl rfl (br_shr32 (n := 24))) ?_
  refine TL.sg ?_
  refine TL.nil (TQ.next (TC.seq (TC.seq (TC.region ?_))))
  refine TL.mv ?_
  refine TL.eff rfl rfl rfl (X.cl rfl Try.func28 rfl (h := (rd.Bad_fn _ _ _ _))) ?_
  rintro _ _ ⟨rfl, rfl⟩
  refine TL.mv ?_
  refine TL.is true (by exact hb) ?_
  refine TL.not rfl rfl rfl ?_
  refine TL.not rfl rfl rfl ?_
  refine TL.not rfl rfl rfl ?_
  refine TL.val rfl rfl rfl (Y.pick_t rfl rfl rfl) ?_
  refine TL.mv ?_
  refine TL.not rfl rfl rfl ?_
  refine TL.not rfl rfl rfl ?_
  refine TL.not rfl rfl rfl ?_
  refine TL.not rfl rfl rfl ?_
  refine TL.not rfl rfl rfl ?_
  refine TL.not rfl rfl rfl ?_
  refine TL.val rfl rfl rfl (Y.pick_t rfl rfl rfl) ?_
  refine TL.mv ?_
  refine TL.not rfl rfl rfl ?_
  refine TL.not rfl rfl rfl ?_
  refine TL.not rfl rfl rfl ?_
  refine TL.not rfl rfl rfl ?_
  refine TL.not rfl rfl rfl ?_
  refine TL.val rfl rfl rfl (Y.pick_t rfl rfl rfl) ?_
  refine TL.nil (TQ.next ?_)
  refine TC.cond_t rfl ?_
  refine TC.seq (TC.region ?_)
  refine TL.sg ?_
  refine TL.sg ?_
  refine TL.sg ?_
  refine TL.nil (TQ.next (TC.ret (TQ.then_ret ?_)))
  refine TQ.retE (resL rfl (Res.tmp rfl (Res.tmp rfl (Res.tmp rfl Res.nil)))) (⟨rfl, rfl⟩) ?_
  exact ett
theorem H_form (h8 : 8 ≤ l.length) (h : n32 l 4 &&& 16777215 ≠ 0 ∨ fitsB (shr32 (n32 l 4) 24).toUInt8 (l.length - 8) = false ∨ decide (n32 l 0 = 0) ≠ decide (shr32 (n32 l 4) 24 = 1)) (L : List SA) :
    Fn Try.prog 12 [pt b 0, .slice a n cap, vI now] (aB b p S :: SA.rds 1 (.slice a n cap) n (l.map v8) :: L) (fun v L' => v = noOut 2 ∧ L' = aB b p (S.clocked now) :: SA.rds 1 (.slice a n cap) n (l.map v8) :: L) := by
  refine Fn.of (N := 160) Try.func12 rfl rfl ?_
  intro Xh
  refine TC.seq (TC.region ?_)
  refine TL.sg ?_
  refine TL.sg ?_
  refine TL.sg ?_
  refine TL.nil (TQ.next (TC.seq (TC.seq (TC.region ?_))))
  refine TL.mv ?_
  refine TL.val rfl rfl rfl (by first | exact Y.eqNilP rfl Try.underlying26 rfl rfl | exact Y.eqNil0 rfl Try.underlying26 rfl rfl) ?_
  refine TL.nil (TQ.next ?_)
  refine TC.cond_f rfl ?_
  refine TC.skip (TQ.next (TC.seq (TC.region ?_)))
  refine TL.mv ?_
  refine TL.mv ?_
  refine TL.nc ?_
  refine TL.val rfl rfl rfl (by first | exact Y.fieldAddrJ rfl fo68_11 rfl nqq | exact Y.fieldAddr rfl fo68_11 rfl nqq) ?_
  refine TL.val rfl rfl rfl (Y.load rfl sc2 rfl celN) ?_
  refine TL.as (vI S.clock) (by rfl) ?_
  refine TL.mv ?_
  refine TL.val rfl rfl rfl (Y.maxI rfl rfl rfl) ?_
  refine TL.as (vI (max S.clock now)) (by rfl) ?_
  refine TL.nc ?_
  refine TL.val rfl rfl rfl (by first | exact Y.fieldAddrJ rfl fo68_11 rfl nqq | exact Y.fieldAddr rfl fo68_11 rfl nqq) ?_
  refine TL.eff0 rfl rfl (X.store (cs' := asC p (S.clocked now)) rfl (by kernel_rfl) rfl rfl rfl pul (by show 11 < 17; decide) rfl) ?_
  rintro _ _ rfl
  refine TL.nil (TQ.next (TC.seq (TC.region ?_)))
  refine TL.mv ?_
  refine TL.eff rfl rfl rfl (X.cl rfl Try.func26 rfl (h := (rd.New_fn a n cap l hn hl _))) ?_
  rintro _ _ ⟨p28, rfl, rfl⟩
  refine TL.sg ?_
  refine TL.nil (TQ.next (TC.seq (TC.region ?_)))
  refine TL.mv ?_
  refine TL.eff rfl rfl rfl (X.cl rfl Try.func27 rfl (h := (u32_ok p28 l (by omega) _))) ?_
  rintro _ _ ⟨rfl, rfl⟩
  rw [show num (l.take 4) = n32 l 0 from rfl]
  refine TL.mv ?_
  refine TL.eff rfl rfl rfl (X.cl rfl Try.func27 rfl (h := (u32_ok p28 (l.drop 4) (by rw [List.length_drop]; omega) _))) ?_
  rintro _ _ ⟨rfl, rfl⟩
  rw [show num ((l.drop 4).take 4) = n32 l 4 from rfl, List.drop_drop]
  refine TL.sg ?_
  refine TL.sg ?_
  refine TL.nil (TQ.next (TC.seq (TC.region ?_)))
  refine TL.mv ?_
  refine TL.val rfl rfl rfl (Y.bin rfl rfl rfl (br_shr32 (n := 24))) ?_
  refine TL.sg ?_
  refine TL.nil (TQ.next (TC.seq (TC.seq (TC.region ?_))))
  refine TL.mv ?_
  refine TL.eff rfl rfl rfl (X.cl rfl Try.func28 rfl (h := (rd.Bad_fn _ _ _ _))) ?_
  rintro _ _ ⟨rfl, rfl⟩
  refine TL.mv ?_
  refine TL.mg ?_
  refine TL.valG rfl rfl rfl (Y.bin rfl rfl rfl (br_and32 (y := 16777215))) ?_
  refine TL.valG rfl rfl rfl (Y.bin rfl rfl rfl (br_ne32 (y := 0))) ?_
  refine TL.val rfl rfl rfl (Y.pick_f rfl rfl rfl) ?_
  refine TL.mv ?_
  refine TL.case (fun g7_7 => ?_) (fun g7_7 => ?_)
  · try simp only [zA, zB, zC, zD, zG, zH, zI, zJ] at g7_7
    refine TL.not rfl rfl rfl ?_
    refine TL.not rfl rfl rfl ?_
    refine TL.not rfl rfl rfl ?_
    refine TL.not rfl rfl rfl ?_
    refine TL.not rfl rfl rfl ?_
    refine TL.not rfl rfl rfl ?_
    refine TL.val rfl rfl rfl (Y.pick_t rfl rfl rfl) ?_
    refine TL.mv ?_
    refine TL.not rfl rfl rfl ?_
    refine TL.not rfl rfl rfl ?_
    refine TL.not rfl rfl rfl ?_
    refine TL.not rfl rfl rfl ?_
    refine TL.not rfl rfl rfl ?_
    refine TL.val rfl rfl rfl (Y.pick_t rfl rfl rfl) ?_
    refine TL.nil (TQ.next ?_)
    refine TC.cond_t rfl ?_
    refine TC.seq (TC.region ?_)
    refine TL.sg ?_
    refine TL.sg ?_
    refine TL.sg ?_
    refine TL.nil (TQ.next (TC.ret (TQ.then_ret ?_)))
    refine TQ.retE (resL rfl (Res.tmp rfl (Res.tmp rfl (Res.tmp rfl Res.nil)))) (⟨rfl, rfl⟩) ?_
    exact ett
  · try simp only [zA, zB, zC, zD, zG, zH, zI, zJ] at g7_7
    refine TL.mg ?_
    refine TL.valG rfl rfl rfl (Y.conv rfl Try.underlying22 Try.underlying5 rfl (cv_32_8)) ?_
    refine TL.mg ?_
    refine TL.effG rfl rfl rfl (X.cl rfl Try.func30 rfl (h := (rd.Left_fn _ _ _ _))) ?_
    rintro _ _ ⟨rfl, rfl⟩
    refine TL.as (vN (l.length - 8)) (by (rw [List.length_drop])) ?_
    refine TL.effG rfl rfl rfl (X.cl rfl Try.func29 rfl (h := (fits_fn (shr32 (n32 l 4) 24).toUInt8 (l.length - 8) (by omega) _))) ?_
    rintro _ _ ⟨rfl, rfl⟩
    refine TL.valG rfl rfl rfl (Y.not rfl rfl) ?_
    refine TL.val rfl rfl rfl (Y.pick_f rfl rfl rfl) ?_
    refine TL.mv ?_
    refine TL.case (fun g7_15 => ?_) (fun g7_15 => ?_)
    · try simp only [zA, zB, zC, zD, zG, zH, zI, zJ] at g7_15
      refine TL.not rfl rfl rfl ?_
      refine TL.not rfl rfl rfl ?_
      refine TL.not rfl rfl rfl ?_
      refine TL.not rfl rfl rfl ?_
      refine TL.not rfl rfl rfl ?_
      refine TL.val rfl rfl rfl (Y.pick_t rfl rfl rfl) ?_
      refine TL.nil (TQ.next ?_)
      refine TC.cond_t rfl ?_
      refine TC.seq (TC.region ?_)
      refine TL.sg ?_
      refine TL.sg ?_
      refine TL.sg ?_
      refine TL.nil (TQ.next (TC.ret (TQ.then_ret ?_)))
      refine TQ.retE (resL rfl (Res.tmp rfl (Res.tmp rfl (Res.tmp rfl Res.nil)))) (⟨rfl, rfl⟩) ?_
      exact ett
    · try simp only [zA, zB, zC, zD, zG, zH, zI, zJ] at g7_15
      refine TL.mg ?_
      refine TL.valG rfl rfl rfl (Y.bin rfl rfl rfl (br_eq32 (y := 0))) ?_
      refine TL.mg ?_
      refine TL.valG rfl rfl rfl (Y.bin rfl rfl rfl (br_eq32 (y := 1))) ?_
      refine TL.valG rfl rfl rfl (Y.neBool rfl Try.underlying4 rfl rfl) ?_
      refine TL.is true (by (by_cases e1 : n32 l 0 = 0 <;> by_cases e2 : shr32 (n32 l 4) 24 = 1 <;> simp_all)) ?_
      refine TL.val rfl rfl rfl (Y.pick_f rfl rfl rfl) ?_
      refine TL.nil (TQ.next ?_)
      refine TC.cond_t rfl ?_
      refine TC.seq (TC.region ?_)
      refine TL.sg ?_
      refine TL.sg ?_
      refine TL.sg ?_
      refine TL.nil (TQ.next (TC.ret (TQ.then_ret ?_)))
      refine TQ.retE (resL rfl (Res.tmp rfl (Res.tmp rfl (Res.tmp rfl Res.nil)))) (⟨rfl, rfl⟩) ?_
      exact ett

theorem H_zero1 (kd : UInt32) (hF : Formed l kd) (hkd : kd = 1) (h0 : n32 l 8 = 0) (L : List SA) : Fn Try.prog 12 [pt b 0, .slice a n cap, vI now] (aB b p S :: SA.rds 1 (.slice a n cap) n (l.map v8) :: L) (fun v L' => v = noOut 2 ∧ L' = aB b p (S.clocked now) :: SA.rds 1 (.slice a n cap) n (l.map v8) :: L) := by
  have hlen := hF.len
  have hl1 : l.length = 16 := by have := hF.fits; subst hkd; simp [fitsB] at this; omega
  refine Fn.of (N := 160) Try.func12 rfl rfl ?_
  intro Xh
  refine TC.seq (TC.region ?_)
  refine TL.sg ?_
  refine TL.sg ?_
  refine TL.sg ?_
  refine TL.nil (TQ.next (TC.seq (TC.seq (TC.region ?_))))
  refine TL.mv ?_
  refine TL.val rfl rfl rfl (by first | exact Y.eqNilP rfl Try.underlying26 rfl rfl | exact Y.eqNil0 rfl Try.underlying26 rfl rfl) ?_
  refine TL.nil (TQ.next ?_)
  refine TC.cond_f rfl ?_
  refine TC.skip (TQ.next (TC.seq (TC.region ?_)))
  refine TL.mv ?_
  refine TL.mv ?_
  refine TL.nc ?_
  refine TL.val rfl rfl rfl (by first | exact Y.fieldAddrJ rfl fo68_11 rfl nqq | exact Y.fieldAddr rfl fo68_11 rfl nqq) ?_
  refine TL.val rfl rfl rfl (Y.load rfl sc2 rfl celN) ?_
  refine TL.as (vI S.clock) (by rfl) ?_
  refine TL.mv ?_
  refine TL.val rfl rfl rfl (Y.maxI rfl rfl rfl) ?_
  refine TL.as (vI (max S.clock now)) (by rfl) ?_
  refine TL.nc ?_
  refine TL.val rfl rfl rfl (by first | exact Y.fieldAddrJ rfl fo68_11 rfl nqq | exact Y.fieldAddr rfl fo68_11 rfl nqq) ?_
  refine TL.eff0 rfl rfl (X.store (cs' := asC p (S.clocked now)) rfl (by kernel_rfl) rfl rfl rfl pul (by show 11 < 17; decide) rfl) ?_
  rintro _ _ rfl
  refine TL.nil (TQ.next (TC.seq (TC.region ?_)))
  refine TL.mv ?_
  refine TL.eff rfl rfl rfl (X.cl rfl Try.func26 rfl (h := (rd.New_fn a n cap l hn hl _))) ?_
  rintro _ _ ⟨p28, rfl, rfl⟩
  refine TL.sg ?_
  refine TL.nil (TQ.next (TC.seq (TC.region ?_)))
  refine TL.mv ?_
  refine TL.eff rfl rfl rfl (X.cl rfl Try.func27 rfl (h := (u32_ok p28 l (by omega) _))) ?_
  rintro _ _ ⟨rfl, rfl⟩
  rw [show num (l.take 4) = n32 l 0 from rfl]
  refine TL.mv ?_
  refine TL.eff rfl rfl rfl (X.cl rfl Try.func27 rfl (h := (u32_ok p28 (l.drop 4) (by rw [List.length_drop]; omega) _))) ?_
  rintro _ _ ⟨rfl, rfl⟩
  rw [show num ((l.drop 4).take 4) = n32 l 4 from rfl, List.drop_drop]
  refine TL.sg ?_
  refine TL.sg ?_
  refine TL.nil (TQ.next (TC.seq (TC.region ?_)))
  refine TL.mv ?_
  refine TL.val rfl rfl rfl (Y.bin rfl rfl rfl (br_shr32 (n := 24))) ?_
  refine TL.as (v32 kd) (by (rw [← hF.kind])) ?_
  refine TL.sg ?_
  refine TL.nil (TQ.next (TC.seq (TC.seq (TC.region ?_))))
  refine TL.mv ?_
  refine TL.eff rfl rfl rfl (X.cl rfl Try.func28 rfl (h := (rd.Bad_fn _ _ _ _))) ?_
  rintro _ _ ⟨rfl, rfl⟩
  refine TL.mv ?_
  refine TL.mg ?_
  refine TL.valG rfl rfl rfl (Y.bin rfl rfl rfl (br_and32 (y := 16777215))) ?_
  refine TL.valG rfl rfl rfl (Y.bin rfl rfl rfl (br_ne32 (y := 0))) ?_
  refine TL.is false (by (simpa using hF.low)) ?_
  refine TL.val rfl rfl rfl (Y.pick_f rfl rfl rfl) ?_
  refine TL.mv ?_
  refine TL.mg ?_
  refine TL.valG rfl rfl rfl (Y.conv rfl Try.underlying22 Try.underlying5 rfl (cv_32_8)) ?_
  refine TL.mg ?_
  refine TL.effG rfl rfl rfl (X.cl rfl Try.func30 rfl (h := (rd.Left_fn _ _ _ _))) ?_
  rintro _ _ ⟨rfl, rfl⟩
  refine TL.as (vN (l.length - 8)) (by (rw [List.length_drop])) ?_
  refine TL.effG rfl rfl rfl (X.cl rfl Try.func29 rfl (h := (fits_fn kd.toUInt8 (l.length - 8) (by omega) _))) ?_
  rintro _ _ ⟨rfl, rfl⟩
  refine TL.valG rfl rfl rfl (Y.not rfl rfl) ?_
  refine TL.is false (by (rw [hF.fits]; rfl)) ?_
  refine TL.val rfl rfl rfl (Y.pick_f rfl rfl rfl) ?_
  refine TL.mv ?_
  refine TL.mg ?_
  refine TL.valG rfl rfl rfl (Y.bin rfl rfl rfl (br_eq32 (y := 0))) ?_
  refine TL.mg ?_
  refine TL.valG rfl rfl rfl (Y.bin rfl rfl rfl (br_eq32 (y := 1))) ?_
  refine TL.valG rfl rfl rfl (Y.neBool rfl Try.underlying4 rfl rfl) ?_
  refine TL.is false (by (have := hF.tagged; by_cases e1 : n32 l 0 = 0 <;> by_cases e2 : kd = 1 <;> simp_all <;> rw [beq_eq_false_iff_ne.2 e1, beq_eq_false_iff_ne.2 e2])) ?_
  refine TL.val rfl rfl rfl (Y.pick_f rfl rfl rfl) ?_
  refine TL.nil (TQ.next ?_)
  refine TC.cond_f rfl ?_
  refine TC.skip (TQ.next (TC.seq (TC.seq (TC.region ?_))))
  refine TL.mv ?_
  refine TL.val rfl rfl rfl (Y.bin rfl rfl rfl (br_leN (n := 2))) ?_
  refine TL.is true (by (subst hkd; decide)) ?_
  refine TL.mv ?_
  refine TL.mg ?_
  refine TL.valG rfl rfl rfl (Y.sliceLo (k := 8) rfl Try.underlying23 sz5 rfl rfl (by omega)) ?_
  refine TL.effG rfl rfl rfl (X.cl rfl Try.func26 rfl (h := (rd.New_gen (SA.rds 1 (.slice a n cap) n (l.map v8)) _ (n - 8) (cap - 8) (l.drop 8) (Reads.tail8 Reads.rds (by omega)) (by rw [List.length_drop]; omega) (by omega) _))) ?_
  rintro _ _ ⟨p62, rfl, rfl⟩
  refine TL.effG rfl rfl rfl (X.cl rfl Try.func27 rfl (h := (u32_ok p62 (l.drop 8) (by rw [List.length_drop]; omega) _))) ?_
  rintro _ _ ⟨rfl, rfl⟩
  rw [show num ((l.drop 8).take 4) = n32 l 8 from rfl]
  refine TL.valG rfl rfl rfl (Y.bin rfl rfl rfl (br_eq32 (y := 0))) ?_
  refine TL.is true (by (rw [h0]; rfl)) ?_
  refine TL.val rfl rfl rfl (Y.pick_t rfl rfl rfl) ?_
  refine TL.nil (TQ.next ?_)
  refine TC.cond_t rfl ?_
  refine TC.seq (TC.region ?_)
  refine TL.sg ?_
  refine TL.sg ?_
  refine TL.sg ?_
  refine TL.nil (TQ.next (TC.ret (TQ.then_ret ?_)))
  refine TQ.retE (resL rfl (Res.tmp rfl (Res.tmp rfl (Res.tmp rfl Res.nil)))) (⟨rfl, rfl⟩) ?_
  exact ett

theorem H_zero2 (kd : UInt32) (hF : Formed l kd) (hkd : kd = 2) (h0 : n32 l 8 = 0) (L : List SA) : Fn Try.prog 12 [pt b 0, .slice a n cap, vI now] (aB b p S :: SA.rds 1 (.slice a n cap) n (l.map v8) :: L) (fun v L' => v = noOut 2 ∧ L' = aB b p (S.clocked now) :: SA.rds 1 (.slice a n cap) n (l.map v8) :: L) := by
  have hlen := hF.len
  have hl1 : l.length = 52 := by have := hF.fits; subst hkd; simp [fitsB] at this; omega
  refine Fn.of (N := 160) Try.func12 rfl rfl ?_
  intro Xh
  refine TC.seq (TC.region ?_)
  refine TL.sg ?_
  refine TL.sg ?_
  refine TL.sg ?_
  refine TL.nil (TQ.next (TC.seq (TC.seq (TC.region ?_))))
  refine TL.mv ?_
  refine TL.val rfl rfl rfl (by first | exact Y.eqNilP rfl Try.underlying26 rfl rfl | exact Y.eqNil0 rfl Try.underlying26 rfl rfl) ?_
  refine TL.nil (TQ.next ?_)
  refine TC.cond_f rfl ?_
  refine TC.skip (TQ.next (TC.seq (TC.region ?_)))
  refine TL.mv ?_
  refine TL.mv ?_
  refine TL.nc ?_
  refine TL.val rfl rfl rfl (by first | exact Y.fieldAddrJ rfl fo68_11 rfl nqq | exact Y.fieldAddr rfl fo68_11 rfl nqq) ?_
  refine TL.val rfl rfl rfl (Y.load rfl sc2 rfl celN) ?_
  refine TL.as (vI S.clock) (by rfl) ?_
  refine TL.mv ?_
  refine TL.val rfl rfl rfl (Y.maxI rfl rfl rfl) ?_
  refine TL.as (vI (max S.clock now)) (by rfl) ?_
  refine TL.nc ?_
  refine TL.val rfl rfl rfl (by first | exact Y.fieldAddrJ rfl fo68_11 rfl nqq | exact Y.fieldAddr rfl fo68_11 rfl nqq) ?_
  refine TL.eff0 rfl rfl (X.store (cs' := asC p (S.clocked now)) rfl (by kernel_rfl) rfl rfl rfl pul (by show 11 < 17; decide) rfl) ?_
  rintro _ _ rfl
  refine TL.nil (TQ.next (TC.seq (TC.region ?_)))
  refine TL.mv ?_
  refine TL.eff rfl rfl rfl (X.cl rfl Try.func26 rfl (h := (rd.New_fn a n cap l hn hl _))) ?_
  rintro _ _ ⟨p28, rfl, rfl⟩
  refine TL.sg ?_
  refine TL.nil (TQ.next (TC.seq (TC.region ?_)))
  refine TL.mv ?_
  refine TL.eff rfl rfl rfl (X.cl rfl Try.func27 rfl (h := (u32_ok p28 l (by omega) _))) ?_
  rintro _ _ ⟨rfl, rfl⟩
  rw [show num (l.take 4) = n32 l 0 from rfl]
  refine TL.mv ?_
  refine TL.eff rfl rfl rfl (X.cl rfl Try.func27 rfl (h := (u32_ok p28 (l.drop 4) (by rw [List.length_drop]; omega) _))) ?_
  rintro _ _ ⟨rfl, rfl⟩
  rw [show num ((l.drop 4).take 4) = n32 l 4 from rfl, List.drop_drop]
  refine TL.sg ?_
  refine TL.sg ?_
  refine TL.nil (TQ.next (TC.seq (TC.region ?_)))
  refine TL.mv ?_
  refine TL.val rfl rfl rfl (Y.bin rfl rfl rfl (br_shr32 (n := 24))) ?_
  refine TL.as (v32 kd) (by (rw [← hF.kind])) ?_
  refine TL.sg ?_
  refine TL.nil (TQ.next (TC.seq (TC.seq (TC.region ?_))))
  refine TL.mv ?_
  refine TL.eff rfl rfl rfl (X.cl rfl Try.func28 rfl (h := (rd.Bad_fn _ _ _ _))) ?_
  rintro _ _ ⟨rfl, rfl⟩
  refine TL.mv ?_
  refine TL.mg ?_
  refine TL.valG rfl rfl rfl (Y.bin rfl rfl rfl (br_and32 (y := 16777215))) ?_
  refine TL.valG rfl rfl rfl (Y.bin rfl rfl rfl (br_ne32 (y := 0))) ?_
  refine TL.is false (by (simpa using hF.low)) ?_
  refine TL.val rfl rfl rfl (Y.pick_f rfl rfl rfl) ?_
  refine TL.mv ?_
  refine TL.mg ?_
  refine TL.valG rfl rfl rfl (Y.conv rfl Try.underlying22 Try.underlying5 rfl (cv_32_8)) ?_
  refine TL.mg ?_
  refine TL.effG rfl rfl rfl (X.cl rfl Try.func30 rfl (h := (rd.Left_fn _ _ _ _))) ?_
  rintro _ _ ⟨rfl, rfl⟩
  refine TL.as (vN (l.length - 8)) (by (rw [List.length_drop])) ?_
  refine TL.effG rfl rfl rfl (X.cl rfl Try.func29 rfl (h := (fits_fn kd.toUInt8 (l.length - 8) (by omega) _))) ?_
  rintro _ _ ⟨rfl, rfl⟩
  refine TL.valG rfl rfl rfl (Y.not rfl rfl) ?_
  refine TL.is false (by (rw [hF.fits]; rfl)) ?_
  refine TL.val rfl rfl rfl (Y.pick_f rfl rfl rfl) ?_
  refine TL.mv ?_
  refine TL.mg ?_
  refine TL.valG rfl rfl rfl (Y.bin rfl rfl rfl (br_eq32 (y := 0))) ?_
  refine TL.mg ?_
  refine TL.valG rfl rfl rfl (Y.bin rfl rfl rfl (br_eq32 (y := 1))) ?_
  refine TL.valG rfl rfl rfl (Y.neBool rfl Try.underlying4 rfl rfl) ?_
  refine TL.is false (by (have := hF.tagged; by_cases e1 : n32 l 0 = 0 <;> by_cases e2 : kd = 1 <;> simp_all <;> rw [beq_eq_false_iff_ne.2 e1, beq_eq_false_iff_ne.2 e2])) ?_
  refine TL.val rfl rfl rfl (Y.pick_f rfl rfl rfl) ?_
  refine TL.nil (TQ.next ?_)
  refine TC.cond_f rfl ?_
  refine TC.skip (TQ.next (TC.seq (TC.seq (TC.region ?_))))
  refine TL.mv ?_
  refine TL.val rfl rfl rfl (Y.bin rfl rfl rfl (br_leN (n := 2))) ?_
  refine TL.is true (by (subst hkd; decide)) ?_
  refine TL.mv ?_
  refine TL.mg ?_
  refine TL.valG rfl rfl rfl (Y.sliceLo (k := 8) rfl Try.underlying23 sz5 rfl rfl (by omega)) ?_
  refine TL.effG rfl rfl rfl (X.cl rfl Try.func26 rfl (h := (rd.New_gen (SA.rds 1 (.slice a n cap) n (l.map v8)) _ (n - 8) (cap - 8) (l.drop 8) (Reads.tail8 Reads.rds (by omega)) (by rw [List.length_drop]; omega) (by omega) _))) ?_
  rintro _ _ ⟨p62, rfl, rfl⟩
  refine TL.effG rfl rfl rfl (X.cl rfl Try.func27 rfl (h := (u32_ok p62 (l.drop 8) (by rw [List.length_drop]; omega) _))) ?_
  rintro _ _ ⟨rfl, rfl⟩
  rw [show num ((l.drop 8).take 4) = n32 l 8 from rfl]
  refine TL.valG rfl rfl rfl (Y.bin rfl rfl rfl (br_eq32 (y := 0))) ?_
  refine TL.is true (by (rw [h0]; rfl)) ?_
  refine TL.val rfl rfl rfl (Y.pick_t rfl rfl rfl) ?_
  refine TL.nil (TQ.next ?_)
  refine TC.cond_t rfl ?_
  refine TC.seq (TC.region ?_)
  refine TL.sg ?_
  refine TL.sg ?_
  refine TL.sg ?_
  refine TL.nil (TQ.next (TC.ret (TQ.then_ret ?_)))
  refine TQ.retE (resL rfl (Res.tmp rfl (Res.tmp rfl (Res.tmp rfl Res.nil)))) (⟨rfl, rfl⟩) ?_
  exact ett

theorem H_init_no (kd : UInt32) (hF : Formed l kd) (hkd : kd = 1) (h0 : n32 l 8 ≠ 0) (hs0 : S.state ≠ 0) (hs3 : S.state ≠ 3) (L : List SA) : Fn Try.prog 12 [pt b 0, .slice a n cap, vI now] (aB b p S :: SA.rds 1 (.slice a n cap) n (l.map v8) :: L) (fun v L' => v = noOut 9 ∧ L' = aB b p (S.clocked now) :: SA.rds 1 (.slice a n cap) n (l.map v8) :: L) := by
  have hlen := hF.len
  have hl1 : l.length = 16 := by have := hF.fits; subst hkd; simp [fitsB] at this; omega
  refine Fn.of (N := 160) Try.func12 rfl rfl ?_
  intro Xh
  refine TC.seq (TC.region ?_)
  refine TL.sg ?_
  refine TL.sg ?_
  refine TL.sg ?_
  refine TL.nil (TQ.next (TC.seq (TC.seq (TC.region ?_))))
  refine TL.mv ?_
  refine TL.val rfl rfl rfl (by first | exact Y.eqNilP rfl Try.underlying26 rfl rfl | exact Y.eqNil0 rfl Try.underlying26 rfl rfl) ?_
  refine TL.nil (TQ.next ?_)
  refine TC.cond_f rfl ?_
  refine TC.skip (TQ.next (TC.seq (TC.region ?_)))
  refine TL.mv ?_
  refine TL.mv ?_
  refine TL.nc ?_
  refine TL.val rfl rfl rfl (by first | exact Y.fieldAddrJ rfl fo68_11 rfl nqq | exact Y.fieldAddr rfl fo68_11 rfl nqq) ?_
  refine TL.val rfl rfl rfl (Y.load rfl sc2 rfl celN) ?_
  refine TL.as (vI S.clock) (by rfl) ?_
  refine TL.mv ?_
  refine TL.val rfl rfl rfl (Y.maxI rfl rfl rfl) ?_
  refine TL.as (vI (max S.clock now)) (by rfl) ?_
  refine TL.nc ?_
  refine TL.val rfl rfl rfl (by first | exact Y.fieldAddrJ rfl fo68_11 rfl nqq | exact Y.fieldAddr rfl fo68_11 rfl nqq) ?_
  refine TL.eff0 rfl rfl (X.store (cs' := asC p (S.clocked now)) rfl (by kernel_rfl) rfl rfl rfl pul (by show 11 < 17; decide) rfl) ?_
  rintro _ _ rfl
  refine TL.nil (TQ.next (TC.seq (TC.region ?_)))
  refine TL.mv ?_
  refine TL.eff rfl rfl rfl (X.cl rfl Try.func26 rfl (h := (rd.New_fn a n cap l hn hl _))) ?_
  rintro _ _ ⟨p28, rfl, rfl⟩
  refine TL.sg ?_
  refine TL.nil (TQ.next (TC.seq (TC.region ?_)))
  refine TL.mv ?_
  refine TL.eff rfl rfl rfl (X.cl rfl Try.func27 rfl (h := (u32_ok p28 l (by omega) _))) ?_
  rintro _ _ ⟨rfl, rfl⟩
  rw [show num (l.take 4) = n32 l 0 from rfl]
  refine TL.mv ?_
  refine TL.eff rfl rfl rfl (X.cl rfl Try.func27 rfl (h := (u32_ok p28 (l.drop 4) (by rw [List.length_drop]; omega) _))) ?_
  rintro _ _ ⟨rfl, rfl⟩
  rw [show num ((l.drop 4).take 4) = n32 l 4 from rfl, List.drop_drop]
  refine TL.sg ?_
  refine TL.sg ?_
  refine TL.nil (TQ.next (TC.seq (TC.region ?_)))
  refine TL.mv ?_
  refine TL.val rfl rfl rfl (Y.bin rfl rfl rfl (br_shr32 (n := 24))) ?_
  refine TL.as (v32 kd) (by (rw [← hF.kind])) ?_
  refine TL.sg ?_
  refine TL.nil (TQ.next (TC.seq (TC.seq (TC.region ?_))))
  refine TL.mv ?_
  refine TL.eff rfl rfl rfl (X.cl rfl Try.func28 rfl (h := (rd.Bad_fn _ _ _ _))) ?_
  rintro _ _ ⟨rfl, rfl⟩
  refine TL.mv ?_
  refine TL.mg ?_
  refine TL.valG rfl rfl rfl (Y.bin rfl rfl rfl (br_and32 (y := 16777215))) ?_
  refine TL.valG rfl rfl rfl (Y.bin rfl rfl rfl (br_ne32 (y := 0))) ?_
  refine TL.is false (by (simpa using hF.low)) ?_
  refine TL.val rfl rfl rfl (Y.pick_f rfl rfl rfl) ?_
  refine TL.mv ?_
  refine TL.mg ?_
  refine TL.valG rfl rfl rfl (Y.conv rfl Try.underlying22 Try.underlying5 rfl (cv_32_8)) ?_
  refine TL.mg ?_
  refine TL.effG rfl rfl rfl (X.cl rfl Try.func30 rfl (h := (rd.Left_fn _ _ _ _))) ?_
  rintro _ _ ⟨rfl, rfl⟩
  refine TL.as (vN (l.length - 8)) (by (rw [List.length_drop])) ?_
  refine TL.effG rfl rfl rfl (X.cl rfl Try.func29 rfl (h := (fits_fn kd.toUInt8 (l.length - 8) (by omega) _))) ?_
  rintro _ _ ⟨rfl, rfl⟩
  refine TL.valG rfl rfl rfl (Y.not rfl rfl) ?_
  refine TL.is false (by (rw [hF.fits]; rfl)) ?_
  refine TL.val rfl rfl rfl (Y.pick_f rfl rfl rfl) ?_
  refine TL.mv ?_
  refine TL.mg ?_
  refine TL.valG rfl rfl rfl (Y.bin rfl rfl rfl (br_eq32 (y := 0))) ?_
  refine TL.mg ?_
  refine TL.valG rfl rfl rfl (Y.bin rfl rfl rfl (br_eq32 (y := 1))) ?_
  refine TL.valG rfl rfl rfl (Y.neBool rfl Try.underlying4 rfl rfl) ?_
  refine TL.is false (by (have := hF.tagged; by_cases e1 : n32 l 0 = 0 <;> by_cases e2 : kd = 1 <;> simp_all <;> rw [beq_eq_false_iff_ne.2 e1, beq_eq_false_iff_ne.2 e2])) ?_
  refine TL.val rfl rfl rfl (Y.pick_f rfl rfl rfl) ?_
  refine TL.nil (TQ.next ?_)
  refine TC.cond_f rfl ?_
  refine TC.skip (TQ.next (TC.seq (TC.seq (TC.region ?_))))
  refine TL.mv ?_
  refine TL.val rfl rfl rfl (Y.bin rfl rfl rfl (br_leN (n := 2))) ?_
  refine TL.is true (by (subst hkd; decide)) ?_
  refine TL.mv ?_
  refine TL.mg ?_
  refine TL.valG rfl rfl rfl (Y.sliceLo (k := 8) rfl Try.underlying23 sz5 rfl rfl (by omega)) ?_
  refine TL.effG rfl rfl rfl (X.cl rfl Try.func26 rfl (h := (rd.New_gen (SA.rds 1 (.slice a n cap) n (l.map v8)) _ (n - 8) (cap - 8) (l.drop 8) (Reads.tail8 Reads.rds (by omega)) (by rw [List.length_drop]; omega) (by omega) _))) ?_
  rintro _ _ ⟨p62, rfl, rfl⟩
  refine TL.effG rfl rfl rfl (X.cl rfl Try.func27 rfl (h := (u32_ok p62 (l.drop 8) (by rw [List.length_drop]; omega) _))) ?_
  rintro _ _ ⟨rfl, rfl⟩
  rw [show num ((l.drop 8).take 4) = n32 l 8 from rfl]
  refine TL.valG rfl rfl rfl (Y.bin rfl rfl rfl (br_eq32 (y := 0))) ?_
  refine TL.is false (by (simpa using h0)) ?_
  refine TL.val rfl rfl rfl (Y.pick_t rfl rfl rfl) ?_
  refine TL.nil (TQ.next ?_)
  refine TC.cond_f rfl ?_
  refine TC.skip (TQ.next (TC.seq (TC.block (TC.seq (TC.region ?_)))))
  refine TL.mv ?_
  refine TL.val rfl rfl rfl (Y.bin rfl rfl rfl (br_eq32 (y := 1))) ?_
  refine TL.is true (by (subst hkd; decide)) ?_
  refine TL.sg ?_
  refine TL.nil (TQ.next ?_)
  refine TC.cond_t rfl ?_
  refine TC.seq (TC.region ?_)
  refine TL.mv ?_
  refine TL.mv ?_
  refine TL.eff rfl rfl rfl (X.cl rfl Try.func31 rfl (h := (initial_no b p (S.clocked now) p28 (l.drop 8) (by rw [List.length_drop]; omega) hs0 hs3 _))) ?_
  rintro _ _ ⟨rfl, rfl⟩
  refine TL.val rfl rfl rfl (Y.extract rfl rfl rfl) ?_
  refine TL.val rfl rfl rfl (Y.extract rfl rfl rfl) ?_
  refine TL.val rfl rfl rfl (Y.extract rfl rfl rfl) ?_
  refine TL.sg ?_
  refine TL.sg ?_
  refine TL.sg ?_
  refine TL.nil (TQ.next (TC.ret (TQ.block_ret (TQ.then_ret ?_))))
  refine TQ.retE (resL rfl (Res.tmp rfl (Res.tmp rfl (Res.tmp rfl Res.nil)))) (⟨rfl, rfl⟩) ?_
  exact ett

theorem H_init_yes (kd : UInt32) (hF : Formed l kd) (hkd : kd = 1) (h0 : n32 l 8 ≠ 0) (hs : S.state = 0 ∨ S.state = 3) (hsec : S.secret.length ≤ 140737488351232) (L : List SA) : Fn Try.prog 12 [pt b 0, .slice a n cap, vI now] (aB b p S :: SA.rds 1 (.slice a n cap) n (l.map v8) :: aS p (S.clocked now) :: L) (fun v L' => ∃ o : Sl Bs, v = .tuple #[o.v, .slice none 0 0, vN 0] ∧ o.l.map (·.l) = [(S.clocked now).initAckB (n32 l 8) (n32 l 12)] ∧ L' = SA.dat o :: aB b p (S.clocked now) :: aS p (S.clocked now) :: SA.rds 1 (.slice a n cap) n (l.map v8) :: L) := by
  have hlen := hF.len
  have hl1 : l.length = 16 := by have := hF.fits; subst hkd; simp [fitsB] at this; omega
  refine Fn.of (N := 160) Try.func12 rfl rfl ?_
  intro Xh
  refine TC.seq (TC.region ?_)
  refine TL.sg ?_
  refine TL.sg ?_
  refine TL.sg ?_
  refine TL.nil (TQ.next (TC.seq (TC.seq (TC.region ?_))))
  refine TL.mv ?_
  refine TL.val rfl rfl rfl (by first | exact Y.eqNilP rfl Try.underlying26 rfl rfl | exact Y.eqNil0 rfl Try.underlying26 rfl rfl) ?_
  refine TL.nil (TQ.next ?_)
  refine TC.cond_f rfl ?_
  refine TC.skip (TQ.next (TC.seq (TC.region ?_)))
  refine TL.mv ?_
  refine TL.mv ?_
  refine TL.nc ?_
  refine TL.val rfl rfl rfl (by first | exact Y.fieldAddrJ rfl fo68_11 rfl nqq | exact Y.fieldAddr rfl fo68_11 rfl nqq) ?_
  refine TL.val rfl rfl rfl (Y.load rfl sc2 rfl celN) ?_
  refine TL.as (vI S.clock) (by rfl) ?_
  refine TL.mv ?_
  refine TL.val rfl rfl rfl (Y.maxI rfl rfl rfl) ?_
  refine TL.as (vI (max S.clock now)) (by rfl) ?_
  refine TL.nc ?_
  refine TL.val rfl rfl rfl (by first | exact Y.fieldAddrJ rfl fo68_11 rfl nqq | exact Y.fieldAddr rfl fo68_11 rfl nqq) ?_
  refine TL.eff0 rfl rfl (X.store (cs' := asC p (S.clocked now)) rfl (by kernel_rfl) rfl rfl rfl pul (by show 11 < 17; decide) rfl) ?_
  rintro _ _ rfl
  refine TL.nil (TQ.next (TC.seq (TC.region ?_)))
  refine TL.mv ?_
  refine TL.eff rfl rfl rfl (X.cl rfl Try.func26 rfl (h := (rd.New_fn a n cap l hn hl _))) ?_
  rintro _ _ ⟨p28, rfl, rfl⟩
  refine TL.sg ?_
  refine TL.nil (TQ.next (TC.seq (TC.region ?_)))
  refine TL.mv ?_
  refine TL.eff rfl rfl rfl (X.cl rfl Try.func27 rfl (h := (u32_ok p28 l (by omega) _))) ?_
  rintro _ _ ⟨rfl, rfl⟩
  rw [show num (l.take 4) = n32 l 0 from rfl]
  refine TL.mv ?_
  refine TL.eff rfl rfl rfl (X.cl rfl Try.func27 rfl (h := (u32_ok p28 (l.drop 4) (by rw [List.length_drop]; omega) _))) ?_
  rintro _ _ ⟨rfl, rfl⟩
  rw [show num ((l.drop 4).take 4) = n32 l 4 from rfl, List.drop_drop]
  refine TL.sg ?_
  refine TL.sg ?_
  refine TL.nil (TQ.next (TC.seq (TC.region ?_)))
  refine TL.mv ?_
  refine TL.val rfl rfl rfl (Y.bin rfl rfl rfl (br_shr32 (n := 24))) ?_
  refine TL.as (v32 kd) (by (rw [← hF.kind])) ?_
  refine TL.sg ?_
  refine TL.nil (TQ.next (TC.seq (TC.seq (TC.region ?_))))
  refine TL.mv ?_
  refine TL.eff rfl rfl rfl (X.cl rfl Try.func28 rfl (h := (rd.Bad_fn _ _ _ _))) ?_
  rintro _ _ ⟨rfl, rfl⟩
  refine TL.mv ?_
  refine TL.mg ?_
  refine TL.valG rfl rfl rfl (Y.bin rfl rfl rfl (br_and32 (y := 16777215))) ?_
  refine TL.valG rfl rfl rfl (Y.bin rfl rfl rfl (br_ne32 (y := 0))) ?_
  refine TL.is false (by (simpa using hF.low)) ?_
  refine TL.val rfl rfl rfl (Y.pick_f rfl rfl rfl) ?_
  refine TL.mv ?_
  refine TL.mg ?_
  refine TL.valG rfl rfl rfl (Y.conv rfl Try.underlying22 Try.underlying5 rfl (cv_32_8)) ?_
  refine TL.mg ?_
  refine TL.effG rfl rfl rfl (X.cl rfl Try.func30 rfl (h := (rd.Left_fn _ _ _ _))) ?_
  rintro _ _ ⟨rfl, rfl⟩
  refine TL.as (vN (l.length - 8)) (by (rw [List.length_drop])) ?_
  refine TL.effG rfl rfl rfl (X.cl rfl Try.func29 rfl (h := (fits_fn kd.toUInt8 (l.length - 8) (by omega) _))) ?_
  rintro _ _ ⟨rfl, rfl⟩
  refine TL.valG rfl rfl rfl (Y.not rfl rfl) ?_
  refine TL.is false (by (rw [hF.fits]; rfl)) ?_
  refine TL.val rfl rfl rfl (Y.pick_f rfl rfl rfl) ?_
  refine TL.mv ?_
  refine TL.mg ?_
  refine TL.valG rfl rfl rfl (Y.bin rfl rfl rfl (br_eq32 (y := 0))) ?_
  refine TL.mg ?_
  refine TL.valG rfl rfl rfl (Y.bin rfl rfl rfl (br_eq32 (y := 1))) ?_
  refine TL.valG rfl rfl rfl (Y.neBool rfl Try.underlying4 rfl rfl) ?_
  refine TL.is false (by (have := hF.tagged; by_cases e1 : n32 l 0 = 0 <;> by_cases e2 : kd = 1 <;> simp_all <;> rw [beq_eq_false_iff_ne.2 e1, beq_eq_false_iff_ne.2 e2])) ?_
  refine TL.val rfl rfl rfl (Y.pick_f rfl rfl rfl) ?_
  refine TL.nil (TQ.next ?_)
  refine TC.cond_f rfl ?_
  refine TC.skip (TQ.next (TC.seq (TC.seq (TC.region ?_))))
  refine TL.mv ?_
  refine TL.val rfl rfl rfl (Y.bin rfl rfl rfl (br_leN (n := 2))) ?_
  refine TL.is true (by (subst hkd; decide)) ?_
  refine TL.mv ?_
  refine TL.mg ?_
  refine TL.valG rfl rfl rfl (Y.sliceLo (k := 8) rfl Try.underlying23 sz5 rfl rfl (by omega)) ?_
  refine TL.effG rfl rfl rfl (X.cl rfl Try.func26 rfl (h := (rd.New_gen (SA.rds 1 (.slice a n cap) n (l.map v8)) _ (n - 8) (cap - 8) (l.drop 8) (Reads.tail8 Reads.rds (by omega)) (by rw [List.length_drop]; omega) (by omega) _))) ?_
  rintro _ _ ⟨p62, rfl, rfl⟩
  refine TL.effG rfl rfl rfl (X.cl rfl Try.func27 rfl (h := (u32_ok p62 (l.drop 8) (by rw [List.length_drop]; omega) _))) ?_
  rintro _ _ ⟨rfl, rfl⟩
  rw [show num ((l.drop 8).take 4) = n32 l 8 from rfl]
  refine TL.valG rfl rfl rfl (Y.bin rfl rfl rfl (br_eq32 (y := 0))) ?_
  refine TL.is false (by (simpa using h0)) ?_
  refine TL.val rfl rfl rfl (Y.pick_t rfl rfl rfl) ?_
  refine TL.nil (TQ.next ?_)
  refine TC.cond_f rfl ?_
  refine TC.skip (TQ.next (TC.seq (TC.block (TC.seq (TC.region ?_)))))
  refine TL.mv ?_
  refine TL.val rfl rfl rfl (Y.bin rfl rfl rfl (br_eq32 (y := 1))) ?_
  refine TL.is true (by (subst hkd; decide)) ?_
  refine TL.sg ?_
  refine TL.nil (TQ.next ?_)
  refine TC.cond_t rfl ?_
  refine TC.seq (TC.region ?_)
  refine TL.mv ?_
  refine TL.mv ?_
  refine TL.eff rfl rfl rfl (X.cl rfl Try.func31 rfl (h := (initial_yes b p (S.clocked now) p28 (l.drop 8) (by rw [List.length_drop]; omega) hs hsec _))) ?_
  rintro _ _ ⟨o, rfl, ho, rfl⟩
  refine TL.val rfl rfl rfl (Y.extract rfl rfl rfl) ?_
  refine TL.val rfl rfl rfl (Y.extract rfl rfl rfl) ?_
  refine TL.val rfl rfl rfl (Y.extract rfl rfl rfl) ?_
  refine TL.sg ?_
  refine TL.sg ?_
  refine TL.sg ?_
  refine TL.nil (TQ.next (TC.ret (TQ.block_ret (TQ.then_ret ?_))))
  refine TQ.retE (resL rfl (Res.tmp rfl (Res.tmp rfl (Res.tmp rfl Res.nil)))) (⟨o, rfl, by rw [ho, List.drop_drop]; rfl, rfl⟩) ?_
  exact ett

theorem H_auth2 (kd : UInt32) (hF : Formed l kd) (hkd : kd = 2) (h0 : n32 l 8 ≠ 0) (ht : n32 l 0 ≠ S.tag) (L : List SA) : Fn Try.prog 12 [pt b 0, .slice a n cap, vI now] (aB b p S :: SA.rds 1 (.slice a n cap) n (l.map v8) :: L) (fun v L' => v = noOut 4 ∧ L' = aB b p (S.clocked now) :: SA.rds 1 (.slice a n cap) n (l.map v8) :: L) := by
  have hlen := hF.len
  have hl1 : l.length = 52 := by have := hF.fits; subst hkd; simp [fitsB] at this; omega
  refine Fn.of (N := 160) Try.func12 rfl rfl ?_
  intro Xh
  refine TC.seq (TC.region ?_)
  refine TL.sg ?_
  refine TL.sg ?_
  refine TL.sg ?_
  refine TL.nil (TQ.next (TC.seq (TC.seq (TC.region ?_))))
  refine TL.mv ?_
  refine TL.val rfl rfl rfl (by first | exact Y.eqNilP rfl Try.underlying26 rfl rfl | exact Y.eqNil0 rfl Try.underlying26 rfl rfl) ?_
  refine TL.nil (TQ.next ?_)
  refine TC.cond_f rfl ?_
  refine TC.skip (TQ.next (TC.seq (TC.region ?_)))
  refine TL.mv ?_
  refine TL.mv ?_
  refine TL.nc ?_
  refine TL.val rfl rfl rfl (by first | exact Y.fieldAddrJ rfl fo68_11 rfl nqq | exact Y.fieldAddr rfl fo68_11 rfl nqq) ?_
  refine TL.val rfl rfl rfl (Y.load rfl sc2 rfl celN) ?_
  refine TL.as (vI S.clock) (by rfl) ?_
  refine TL.mv ?_
  refine TL.val rfl rfl rfl (Y.maxI rfl rfl rfl) ?_
  refine TL.as (vI (max S.clock now)) (by rfl) ?_
  refine TL.nc ?_
  refine TL.val rfl rfl rfl (by first | exact Y.fieldAddrJ rfl fo68_11 rfl nqq | exact Y.fieldAddr rfl fo68_11 rfl nqq) ?_
  refine TL.eff0 rfl rfl (X.store (cs' := asC p (S.clocked now)) rfl (by kernel_rfl) rfl rfl rfl pul (by show 11 < 17; decide) rfl) ?_
  rintro _ _ rfl
  refine TL.nil (TQ.next (TC.seq (TC.region ?_)))
  refine TL.mv ?_
  refine TL.eff rfl rfl rfl (X.cl rfl Try.func26 rfl (h := (rd.New_fn a n cap l hn hl _))) ?_
  rintro _ _ ⟨p28, rfl, rfl⟩
  refine TL.sg ?_
  refine TL.nil (TQ.next (TC.seq (TC.region ?_)))
  refine TL.mv ?_
  refine TL.eff rfl rfl rfl (X.cl rfl Try.func27 rfl (h := (u32_ok p28 l (by omega) _))) ?_
  rintro _ _ ⟨rfl, rfl⟩
  rw [show num (l.take 4) = n32 l 0 from rfl]
  refine TL.mv ?_
  refine TL.eff rfl rfl rfl (X.cl rfl Try.func27 rfl (h := (u32_ok p28 (l.drop 4) (by rw [List.length_drop]; omega) _))) ?_
  rintro _ _ ⟨rfl, rfl⟩
  rw [show num ((l.drop 4).take 4) = n32 l 4 from rfl, List.drop_drop]
  refine TL.sg ?_
  refine TL.sg ?_
  refine TL.nil (TQ.next (TC.seq (TC.region ?_)))
  refine TL.mv ?_
  refine TL.val rfl rfl rfl (Y.bin rfl rfl rfl (br_shr32 (n := 24))) ?_
  refine TL.as (v32 kd) (by (rw [← hF.kind])) ?_
  refine TL.sg ?_
  refine TL.nil (TQ.next (TC.seq (TC.seq (TC.region ?_))))
  refine TL.mv ?_
  refine TL.eff rfl rfl rfl (X.cl rfl Try.func28 rfl (h := (rd.Bad_fn _ _ _ _))) ?_
  rintro _ _ ⟨rfl, rfl⟩
  refine TL.mv ?_
  refine TL.mg ?_
  refine TL.valG rfl rfl rfl (Y.bin rfl rfl rfl (br_and32 (y := 16777215))) ?_
  refine TL.valG rfl rfl rfl (Y.bin rfl rfl rfl (br_ne32 (y := 0))) ?_
  refine TL.is false (by (simpa using hF.low)) ?_
  refine TL.val rfl rfl rfl (Y.pick_f rfl rfl rfl) ?_
  refine TL.mv ?_
  refine TL.mg ?_
  refine TL.valG rfl rfl rfl (Y.conv rfl Try.underlying22 Try.underlying5 rfl (cv_32_8)) ?_
  refine TL.mg ?_
  refine TL.effG rfl rfl rfl (X.cl rfl Try.func30 rfl (h := (rd.Left_fn _ _ _ _))) ?_
  rintro _ _ ⟨rfl, rfl⟩
  refine TL.as (vN (l.length - 8)) (by (rw [List.length_drop])) ?_
  refine TL.effG rfl rfl rfl (X.cl rfl Try.func29 rfl (h := (fits_fn kd.toUInt8 (l.length - 8) (by omega) _))) ?_
  rintro _ _ ⟨rfl, rfl⟩
  refine TL.valG rfl rfl rfl (Y.not rfl rfl) ?_
  refine TL.is false (by (rw [hF.fits]; rfl)) ?_
  refine TL.val rfl rfl rfl (Y.pick_f rfl rfl rfl) ?_
  refine TL.mv ?_
  refine TL.mg ?_
  refine TL.valG rfl rfl rfl (Y.bin rfl rfl rfl (br_eq32 (y := 0))) ?_
  refine TL.mg ?_
  refine TL.valG rfl rfl rfl (Y.bin rfl rfl rfl (br_eq32 (y := 1))) ?_
  refine TL.valG rfl rfl rfl (Y.neBool rfl Try.underlying4 rfl rfl) ?_
  refine TL.is false (by (have := hF.tagged; by_cases e1 : n32 l 0 = 0 <;> by_cases e2 : kd = 1 <;> simp_all <;> rw [beq_eq_false_iff_ne.2 e1, beq_eq_false_iff_ne.2 e2])) ?_
  refine TL.val rfl rfl rfl (Y.pick_f rfl rfl rfl) ?_
  refine TL.nil (TQ.next ?_)
  refine TC.cond_f rfl ?_
  refine TC.skip (TQ.next (TC.seq (TC.seq (TC.region ?_))))
  refine TL.mv ?_
  refine TL.val rfl rfl rfl (Y.bin rfl rfl rfl (br_leN (n := 2))) ?_
  refine TL.is true (by (subst hkd; decide)) ?_
  refine TL.mv ?_
  refine TL.mg ?_
  refine TL.valG rfl rfl rfl (Y.sliceLo (k := 8) rfl Try.underlying23 sz5 rfl rfl (by omega)) ?_
  refine TL.effG rfl rfl rfl (X.cl rfl Try.func26 rfl (h := (rd.New_gen (SA.rds 1 (.slice a n cap) n (l.map v8)) _ (n - 8) (cap - 8) (l.drop 8) (Reads.tail8 Reads.rds (by omega)) (by rw [List.length_drop]; omega) (by omega) _))) ?_
  rintro _ _ ⟨p62, rfl, rfl⟩
  refine TL.effG rfl rfl rfl (X.cl rfl Try.func27 rfl (h := (u32_ok p62 (l.drop 8) (by rw [List.length_drop]; omega) _))) ?_
  rintro _ _ ⟨rfl, rfl⟩
  rw [show num ((l.drop 8).take 4) = n32 l 8 from rfl]
  refine TL.valG rfl rfl rfl (Y.bin rfl rfl rfl (br_eq32 (y := 0))) ?_
  refine TL.is false (by (simpa using h0)) ?_
  refine TL.val rfl rfl rfl (Y.pick_t rfl rfl rfl) ?_
  refine TL.nil (TQ.next ?_)
  refine TC.cond_f rfl ?_
  refine TC.skip (TQ.next (TC.seq (TC.block (TC.seq (TC.region ?_)))))
  refine TL.mv ?_
  refine TL.val rfl rfl rfl (Y.bin rfl rfl rfl (br_eq32 (y := 1))) ?_
  refine TL.is false (by (subst hkd; decide)) ?_
  refine TL.sg ?_
  refine TL.nil (TQ.next ?_)
  refine TC.cond_f rfl ?_
  refine TC.seq (TC.region ?_)
  refine TL.mv ?_
  refine TL.mv ?_
  refine TL.nc ?_
  refine TL.val rfl rfl rfl (by first | exact Y.fieldAddrJ rfl fo68_0 rfl nqq | exact Y.fieldAddr rfl fo68_0 rfl nqq) ?_
  refine TL.val rfl rfl rfl (Y.load rfl sc22 rfl cel32) ?_
  refine TL.as (v32 S.tag) (by rfl) ?_
  refine TL.val rfl rfl rfl (Y.bin rfl rfl rfl (br_ne32)) ?_
  refine TL.is true (by (simpa using ht)) ?_
  refine TL.sg ?_
  refine TL.nil (TQ.next ?_)
  refine TC.cond_t rfl ?_
  refine TC.seq (TC.region ?_)
  refine TL.sg ?_
  refine TL.sg ?_
  refine TL.sg ?_
  refine TL.nil (TQ.next (TC.ret (TQ.block_ret (TQ.then_ret ?_))))
  refine TQ.retE (resL rfl (Res.tmp rfl (Res.tmp rfl (Res.tmp rfl Res.nil)))) (⟨rfl, rfl⟩) ?_
  exact ett

theorem H_auth (kd : UInt32) (hF : Formed l kd) (hk2 : ¬ kd ≤ 2) (ht : n32 l 0 ≠ S.tag) (L : List SA) : Fn Try.prog 12 [pt b 0, .slice a n cap, vI now] (aB b p S :: SA.rds 1 (.slice a n cap) n (l.map v8) :: L) (fun v L' => v = noOut 4 ∧ L' = aB b p (S.clocked now) :: SA.rds 1 (.slice a n cap) n (l.map v8) :: L) := by
  have hlen := hF.len
  refine Fn.of (N := 160) Try.func12 rfl rfl ?_
  intro Xh
  refine TC.seq (TC.region ?_)
  refine TL.sg ?_
  refine TL.sg ?_
  refine TL.sg ?_
  refine TL.nil (TQ.next (TC.seq (TC.seq (TC.region ?_))))
  refine TL.mv ?_
  refine TL.val rfl rfl rfl (by first | exact Y.eqNilP rfl Try.underlying26 rfl rfl | exact Y.eqNil0 rfl Try.underlying26 rfl rfl) ?_
  refine TL.nil (TQ.next ?_)
  refine TC.cond_f rfl ?_
  refine TC.skip (TQ.next (TC.seq (TC.region ?_)))
  refine TL.mv ?_
  refine TL.mv ?_
  refine TL.nc ?_
  refine TL.val rfl rfl rfl (by first | exact Y.fieldAddrJ rfl fo68_11 rfl nqq | exact Y.fieldAddr rfl fo68_11 rfl nqq) ?_
  refine TL.val rfl rfl rfl (Y.load rfl sc2 rfl celN) ?_
  refine TL.as (vI S.clock) (by rfl) ?_
  refine TL.mv ?_
  refine TL.val rfl rfl rfl (Y.maxI rfl rfl rfl) ?_
  refine TL.as (vI (max S.clock now)) (by rfl) ?_
  refine TL.nc ?_
  refine TL.val rfl rfl rfl (by first | exact Y.fieldAddrJ rfl fo68_11 rfl nqq | exact Y.fieldAddr rfl fo68_11 rfl nqq) ?_
  refine TL.eff0 rfl rfl (X.store (cs' := asC p (S.clocked now)) rfl (by kernel_rfl) rfl rfl rfl pul (by show 11 < 17; decide) rfl) ?_
  rintro _ _ rfl
  refine TL.nil (TQ.next (TC.seq (TC.region ?_)))
  refine TL.mv ?_
  refine TL.eff rfl rfl rfl (X.cl rfl Try.func26 rfl (h := (rd.New_fn a n cap l hn hl _))) ?_
  rintro _ _ ⟨p28, rfl, rfl⟩
  refine TL.sg ?_
  refine TL.nil (TQ.next (TC.seq (TC.region ?_)))
  refine TL.mv ?_
  refine TL.eff rfl rfl rfl (X.cl rfl Try.func27 rfl (h := (u32_ok p28 l (by omega) _))) ?_
  rintro _ _ ⟨rfl, rfl⟩
  rw [show num (l.take 4) = n32 l 0 from rfl]
  refine TL.mv ?_
  refine TL.eff rfl rfl rfl (X.cl rfl Try.func27 rfl (h := (u32_ok p28 (l.drop 4) (by rw [List.length_drop]; omega) _))) ?_
  rintro _ _ ⟨rfl, rfl⟩
  rw [show num ((l.drop 4).take 4) = n32 l 4 from rfl, List.drop_drop]
  refine TL.sg ?_
  refine TL.sg ?_
  refine TL.nil (TQ.next (TC.seq (TC.region ?_)))
  refine TL.mv ?_
  refine TL.val rfl rfl rfl (Y.bin rfl rfl rfl (br_shr32 (n := 24))) ?_
  refine TL.as (v32 kd) (by (rw [← hF.kind])) ?_
  refine TL.sg ?_
  refine TL.nil (TQ.next (TC.seq (TC.seq (TC.region ?_))))
  refine TL.mv ?_
  refine TL.eff rfl rfl rfl (X.cl rfl Try.func28 rfl (h := (rd.Bad_fn _ _ _ _))) ?_
  rintro _ _ ⟨rfl, rfl⟩
  refine TL.mv ?_
  refine TL.mg ?_
  refine TL.valG rfl rfl rfl (Y.bin rfl rfl rfl (br_and32 (y := 16777215))) ?_
  refine TL.valG rfl rfl rfl (Y.bin rfl rfl rfl (br_ne32 (y := 0))) ?_
  refine TL.is false (by (simpa using hF.low)) ?_
  refine TL.val rfl rfl rfl (Y.pick_f rfl rfl rfl) ?_
  refine TL.mv ?_
  refine TL.mg ?_
  refine TL.valG rfl rfl rfl (Y.conv rfl Try.underlying22 Try.underlying5 rfl (cv_32_8)) ?_
  refine TL.mg ?_
  refine TL.effG rfl rfl rfl (X.cl rfl Try.func30 rfl (h := (rd.Left_fn _ _ _ _))) ?_
  rintro _ _ ⟨rfl, rfl⟩
  refine TL.as (vN (l.length - 8)) (by (rw [List.length_drop])) ?_
  refine TL.effG rfl rfl rfl (X.cl rfl Try.func29 rfl (h := (fits_fn kd.toUInt8 (l.length - 8) (by omega) _))) ?_
  rintro _ _ ⟨rfl, rfl⟩
  refine TL.valG rfl rfl rfl (Y.not rfl rfl) ?_
  refine TL.is false (by (rw [hF.fits]; rfl)) ?_
  refine TL.val rfl rfl rfl (Y.pick_f rfl rfl rfl) ?_
  refine TL.mv ?_
  refine TL.mg ?_
  refine TL.valG rfl rfl rfl (Y.bin rfl rfl rfl (br_eq32 (y := 0))) ?_
  refine TL.mg ?_
  refine TL.valG rfl rfl rfl (Y.bin rfl rfl rfl (br_eq32 (y := 1))) ?_
  refine TL.valG rfl rfl rfl (Y.neBool rfl Try.underlying4 rfl rfl) ?_
  refine TL.is false (by (have := hF.tagged; by_cases e1 : n32 l 0 = 0 <;> by_cases e2 : kd = 1 <;> simp_all <;> rw [beq_eq_false_iff_ne.2 e1, beq_eq_false_iff_ne.2 e2])) ?_
  refine TL.val rfl rfl rfl (Y.pick_f rfl rfl rfl) ?_
  refine TL.nil (TQ.next ?_)
  refine TC.cond_f rfl ?_
  refine TC.skip (TQ.next (TC.seq (TC.seq (TC.region ?_))))
  refine TL.mv ?_
  refine TL.val rfl rfl rfl (Y.bin rfl rfl rfl (br_leN (n := 2))) ?_
  refine TL.is false (by (rw [decide_eq_false_iff_not]; exact fun h => hk2 (UInt32.le_iff_toNat_le.2 h))) ?_
  refine TL.mv ?_
  refine TL.not rfl rfl rfl ?_
  refine TL.not rfl rfl rfl ?_
  refine TL.not rfl rfl rfl ?_
  refine TL.not rfl rfl rfl ?_
  refine TL.not rfl rfl rfl ?_
  refine TL.val rfl rfl rfl (Y.pick_f rfl rfl rfl) ?_
  refine TL.nil (TQ.next ?_)
  refine TC.cond_f rfl ?_
  refine TC.skip (TQ.next (TC.seq (TC.block (TC.seq (TC.region ?_)))))
  refine TL.mv ?_
  refine TL.val rfl rfl rfl (Y.bin rfl rfl rfl (br_eq32 (y := 1))) ?_
  refine TL.is false (by (rw [beq_eq_false_iff_ne]; rintro rfl; exact hk2 (by decide))) ?_
  refine TL.sg ?_
  refine TL.nil (TQ.next ?_)
  refine TC.cond_f rfl ?_
  refine TC.seq (TC.region ?_)
  refine TL.mv ?_
  refine TL.mv ?_
  refine TL.nc ?_
  refine TL.val rfl rfl rfl (by first | exact Y.fieldAddrJ rfl fo68_0 rfl nqq | exact Y.fieldAddr rfl fo68_0 rfl nqq) ?_
  refine TL.val rfl rfl rfl (Y.load rfl sc22 rfl cel32) ?_
  refine TL.as (v32 S.tag) (by rfl) ?_
  refine TL.val rfl rfl rfl (Y.bin rfl rfl rfl (br_ne32)) ?_
  refine TL.is true (by (simpa using ht)) ?_
  refine TL.sg ?_
  refine TL.nil (TQ.next ?_)
  refine TC.cond_t rfl ?_
  refine TC.seq (TC.region ?_)
  refine TL.sg ?_
  refine TL.sg ?_
  refine TL.sg ?_
  refine TL.nil (TQ.next (TC.ret (TQ.block_ret (TQ.then_ret ?_))))
  refine TQ.retE (resL rfl (Res.tmp rfl (Res.tmp rfl (Res.tmp rfl Res.nil)))) (⟨rfl, rfl⟩) ?_
  exact ett

theorem H_ack_no (kd : UInt32) (hF : Formed l kd) (hkd : kd = 2) (h0 : n32 l 8 ≠ 0) (ht : n32 l 0 = S.tag) (hs : S.state ≠ 1) (L : List SA) : Fn Try.prog 12 [pt b 0, .slice a n cap, vI now] (aB b p S :: SA.rds 1 (.slice a n cap) n (l.map v8) :: L) (fun v L' => v = noOut 9 ∧ L' = aB b p (S.clocked now) :: SA.rds 1 (.slice a n cap) n (l.map v8) :: L) := by
  have hlen := hF.len
  have hl1 : l.length = 52 := by have := hF.fits; subst hkd; simp [fitsB] at this; omega
  refine Fn.of (N := 160) Try.func12 rfl rfl ?_
  intro Xh
  refine TC.seq (TC.region ?_)
  refine TL.sg ?_
  refine TL.sg ?_
  refine TL.sg ?_
  refine TL.nil (TQ.next (TC.seq (TC.seq (TC.region ?_))))
  refine TL.mv ?_
  refine TL.val rfl rfl rfl (by first | exact Y.eqNilP rfl Try.underlying26 rfl rfl | exact Y.eqNil0 rfl Try.underlying26 rfl rfl) ?_
  refine TL.nil (TQ.next ?_)
  refine TC.cond_f rfl ?_
  refine TC.skip (TQ.next (TC.seq (TC.region ?_)))
  refine TL.mv ?_
  refine TL.mv ?_
  refine TL.nc ?_
  refine TL.val rfl rfl rfl (by first | exact Y.fieldAddrJ rfl fo68_11 rfl nqq | exact Y.fieldAddr rfl fo68_11 rfl nqq) ?_
  refine TL.val rfl rfl rfl (Y.load rfl sc2 rfl celN) ?_
  refine TL.as (vI S.clock) (by rfl) ?_
  refine TL.mv ?_
  refine TL.val rfl rfl rfl (Y.maxI rfl rfl rfl) ?_
  refine TL.as (vI (max S.clock now)) (by rfl) ?_
  refine TL.nc ?_
  refine TL.val rfl rfl rfl (by first | exact Y.fieldAddrJ rfl fo68_11 rfl nqq | exact Y.fieldAddr rfl fo68_11 rfl nqq) ?_
  refine TL.eff0 rfl rfl (X.store (cs' := asC p (S.clocked now)) rfl (by kernel_rfl) rfl rfl rfl pul (by show 11 < 17; decide) rfl) ?_
  rintro _ _ rfl
  refine TL.nil (TQ.next (TC.seq (TC.region ?_)))
  refine TL.mv ?_
  refine TL.eff rfl rfl rfl (X.cl rfl Try.func26 rfl (h := (rd.New_fn a n cap l hn hl _))) ?_
  rintro _ _ ⟨p28, rfl, rfl⟩
  refine TL.sg ?_
  refine TL.nil (TQ.next (TC.seq (TC.region ?_)))
  refine TL.mv ?_
  refine TL.eff rfl rfl rfl (X.cl rfl Try.func27 rfl (h := (u32_ok p28 l (by omega) _))) ?_
  rintro _ _ ⟨rfl, rfl⟩
  rw [show num (l.take 4) = n32 l 0 from rfl]
  refine TL.mv ?_
  refine TL.eff rfl rfl rfl (X.cl rfl Try.func27 rfl (h := (u32_ok p28 (l.drop 4) (by rw [List.length_drop]; omega) _))) ?_
  rintro _ _ ⟨rfl, rfl⟩
  rw [show num ((l.drop 4).take 4) = n32 l 4 from rfl, List.drop_drop]
  refine TL.sg ?_
  refine TL.sg ?_
  refine TL.nil (TQ.next (TC.seq (TC.region ?_)))
  refine TL.mv ?_
  refine TL.val rfl rfl rfl (Y.bin rfl rfl rfl (br_shr32 (n := 24))) ?_
  refine TL.as (v32 kd) (by (rw [← hF.kind])) ?_
  refine TL.sg ?_
  refine TL.nil (TQ.next (TC.seq (TC.seq (TC.region ?_))))
  refine TL.mv ?_
  refine TL.eff rfl rfl rfl (X.cl rfl Try.func28 rfl (h := (rd.Bad_fn _ _ _ _))) ?_
  rintro _ _ ⟨rfl, rfl⟩
  refine TL.mv ?_
  refine TL.mg ?_
  refine TL.valG rfl rfl rfl (Y.bin rfl rfl rfl (br_and32 (y := 16777215))) ?_
  refine TL.valG rfl rfl rfl (Y.bin rfl rfl rfl (br_ne32 (y := 0))) ?_
  refine TL.is false (by (simpa using hF.low)) ?_
  refine TL.val rfl rfl rfl (Y.pick_f rfl rfl rfl) ?_
  refine TL.mv ?_
  refine TL.mg ?_
  refine TL.valG rfl rfl rfl (Y.conv rfl Try.underlying22 Try.underlying5 rfl (cv_32_8)) ?_
  refine TL.mg ?_
  refine TL.effG rfl rfl rfl (X.cl rfl Try.func30 rfl (h := (rd.Left_fn _ _ _ _))) ?_
  rintro _ _ ⟨rfl, rfl⟩
  refine TL.as (vN (l.length - 8)) (by (rw [List.length_drop])) ?_
  refine TL.effG rfl rfl rfl (X.cl rfl Try.func29 rfl (h := (fits_fn kd.toUInt8 (l.length - 8) (by omega) _))) ?_
  rintro _ _ ⟨rfl, rfl⟩
  refine TL.valG rfl rfl rfl (Y.not rfl rfl) ?_
  refine TL.is false (by (rw [hF.fits]; rfl)) ?_
  refine TL.val rfl rfl rfl (Y.pick_f rfl rfl rfl) ?_
  refine TL.mv ?_
  refine TL.mg ?_
  refine TL.valG rfl rfl rfl (Y.bin rfl rfl rfl (br_eq32 (y := 0))) ?_
  refine TL.mg ?_
  refine TL.valG rfl rfl rfl (Y.bin rfl rfl rfl (br_eq32 (y := 1))) ?_
  refine TL.valG rfl rfl rfl (Y.neBool rfl Try.underlying4 rfl rfl) ?_
  refine TL.is false (by (have := hF.tagged; by_cases e1 : n32 l 0 = 0 <;> by_cases e2 : kd = 1 <;> simp_all <;> rw [beq_eq_false_iff_ne.2 e1, beq_eq_false_iff_ne.2 e2])) ?_
  refine TL.val rfl rfl rfl (Y.pick_f rfl rfl rfl) ?_
  refine TL.nil (TQ.next ?_)
  refine TC.cond_f rfl ?_
  refine TC.skip (TQ.next (TC.seq (TC.seq (TC.region ?_))))
  refine TL.mv ?_
  refine TL.val rfl rfl rfl (Y.bin rfl rfl rfl (br_leN (n := 2))) ?_
  refine TL.is true (by (subst hkd; decide)) ?_
  refine TL.mv ?_
  refine TL.mg ?_
  refine TL.valG rfl rfl rfl (Y.sliceLo (k := 8) rfl Try.underlying23 sz5 rfl rfl (by omega)) ?_
  refine TL.effG rfl rfl rfl (X.cl rfl Try.func26 rfl (h := (rd.New_gen (SA.rds 1 (.slice a n cap) n (l.map v8)) _ (n - 8) (cap - 8) (l.drop 8) (Reads.tail8 Reads.rds (by omega)) (by rw [List.length_drop]; omega) (by omega) _))) ?_
  rintro _ _ ⟨p62, rfl, rfl⟩
  refine TL.effG rfl rfl rfl (X.cl rfl Try.func27 rfl (h := (u32_ok p62 (l.drop 8) (by rw [List.length_drop]; omega) _))) ?_
  rintro _ _ ⟨rfl, rfl⟩
  rw [show num ((l.drop 8).take 4) = n32 l 8 from rfl]
  refine TL.valG rfl rfl rfl (Y.bin rfl rfl rfl (br_eq32 (y := 0))) ?_
  refine TL.is false (by (simpa using h0)) ?_
  refine TL.val rfl rfl rfl (Y.pick_t rfl rfl rfl) ?_
  refine TL.nil (TQ.next ?_)
  refine TC.cond_f rfl ?_
  refine TC.skip (TQ.next (TC.seq (TC.block (TC.seq (TC.region ?_)))))
  refine TL.mv ?_
  refine TL.val rfl rfl rfl (Y.bin rfl rfl rfl (br_eq32 (y := 1))) ?_
  refine TL.is false (by (subst hkd; decide)) ?_
  refine TL.sg ?_
  refine TL.nil (TQ.next ?_)
  refine TC.cond_f rfl ?_
  refine TC.seq (TC.region ?_)
  refine TL.mv ?_
  refine TL.mv ?_
  refine TL.nc ?_
  refine TL.val rfl rfl rfl (by first | exact Y.fieldAddrJ rfl fo68_0 rfl nqq | exact Y.fieldAddr rfl fo68_0 rfl nqq) ?_
  refine TL.val rfl rfl rfl (Y.load rfl sc22 rfl cel32) ?_
  refine TL.as (v32 S.tag) (by rfl) ?_
  refine TL.val rfl rfl rfl (Y.bin rfl rfl rfl (br_ne32)) ?_
  refine TL.is false (by (simpa using ht)) ?_
  refine TL.sg ?_
  refine TL.nil (TQ.next ?_)
  refine TC.cond_f rfl ?_
  refine TC.seq (TC.region ?_)
  refine TL.mv ?_
  refine TL.val rfl rfl rfl (Y.bin rfl rfl rfl (br_eq32 (y := 2))) ?_
  refine TL.is true (by (subst hkd; decide)) ?_
  refine TL.sg ?_
  refine TL.nil (TQ.next ?_)
  refine TC.cond_t rfl ?_
  refine TC.seq (TC.region ?_)
  refine TL.mv ?_
  refine TL.mv ?_
  refine TL.eff rfl rfl rfl (X.cl rfl Try.func32 rfl (h := (initialAck_no b p (S.clocked now) p28 (l.drop 8) hs _))) ?_
  rintro _ _ ⟨rfl, rfl⟩
  refine TL.val rfl rfl rfl (Y.extract rfl rfl rfl) ?_
  refine TL.val rfl rfl rfl (Y.extract rfl rfl rfl) ?_
  refine TL.val rfl rfl rfl (Y.extract rfl rfl rfl) ?_
  refine TL.sg ?_
  refine TL.sg ?_
  refine TL.sg ?_
  refine TL.nil (TQ.next (TC.ret (TQ.block_ret (TQ.then_ret ?_))))
  refine TQ.retE (resL rfl (Res.tmp rfl (Res.tmp rfl (Res.tmp rfl Res.nil)))) (⟨rfl, rfl⟩) ?_
  exact ett

theorem H_ack_yes (kd : UInt32) (hF : Formed l kd) (hkd : kd = 2) (h0 : n32 l 8 ≠ 0) (ht : n32 l 0 = S.tag) (hs : S.state = 1) (L : List SA) : Fn Try.prog 12 [pt b 0, .slice a n cap, vI now] (aB b p S :: SA.rds 1 (.slice a n cap) n (l.map v8) :: L) (fun v L' => ∃ (o : Sl Bs) (ha : Option Addr) (hc : Nat), v = .tuple #[o.v, .slice none 0 0, vN 0] ∧ o.l.map (·.l) = [echoB (n32 l 8) (l.drop 16)] ∧ L' = SA.dat o :: aB b { p with ha := ha, hc := hc } ((S.clocked now).echo (n32 l 8) (n32 l 12) (l.drop 16)) :: aH { p with ha := ha, hc := hc } ((S.clocked now).echo (n32 l 8) (n32 l 12) (l.drop 16)) :: SA.rds 1 (.slice a n cap) n (l.map v8) :: L) := by
  have hlen := hF.len
  have hl1 : l.length = 52 := by have := hF.fits; subst hkd; simp [fitsB] at this; omega
  refine Fn.of (N := 160) Try.func12 rfl rfl ?_
  intro Xh
  refine TC.seq (TC.region ?_)
  refine TL.sg ?_
  refine TL.sg ?_
  refine TL.sg ?_
  refine TL.nil (TQ.next (TC.seq (TC.seq (TC.region ?_))))
  refine TL.mv ?_
  refine TL.val rfl rfl rfl (by first | exact Y.eqNilP rfl Try.underlying26 rfl rfl | exact Y.eqNil0 rfl Try.underlying26 rfl rfl) ?_
  refine TL.nil (TQ.next ?_)
  refine TC.cond_f rfl ?_
  refine TC.skip (TQ.next (TC.seq (TC.region ?_)))
  refine TL.mv ?_
  refine TL.mv ?_
  refine TL.nc ?_
  refine TL.val rfl rfl rfl (by first | exact Y.fieldAddrJ rfl fo68_11 rfl nqq | exact Y.fieldAddr rfl fo68_11 rfl nqq) ?_
  refine TL.val rfl rfl rfl (Y.load rfl sc2 rfl celN) ?_
  refine TL.as (vI S.clock) (by rfl) ?_
  refine TL.mv ?_
  refine TL.val rfl rfl rfl (Y.maxI rfl rfl rfl) ?_
  refine TL.as (vI (max S.clock now)) (by rfl) ?_
  refine TL.nc ?_
  refine TL.val rfl rfl rfl (by first | exact Y.fieldAddrJ rfl fo68_11 rfl nqq | exact Y.fieldAddr rfl fo68_11 rfl nqq) ?_
  refine TL.eff0 rfl rfl (X.store (cs' := asC p (S.clocked now)) rfl (by kernel_rfl) rfl rfl rfl pul (by show 11 < 17; decide) rfl) ?_
  rintro _ _ rfl
  refine TL.nil (TQ.next (TC.seq (TC.region ?_)))
  refine TL.mv ?_
  refine TL.eff rfl rfl rfl (X.cl rfl Try.func26 rfl (h := (rd.New_fn a n cap l hn hl _))) ?_
  rintro _ _ ⟨p28, rfl, rfl⟩
  refine TL.sg ?_
  refine TL.nil (TQ.next (TC.seq (TC.region ?_)))
  refine TL.mv ?_
  refine TL.eff rfl rfl rfl (X.cl rfl Try.func27 rfl (h := (u32_ok p28 l (by omega) _))) ?_
  rintro _ _ ⟨rfl, rfl⟩
  rw [show num (l.take 4) = n32 l 0 from rfl]
  refine TL.mv ?_
  refine TL.eff rfl rfl rfl (X.cl rfl Try.func27 rfl (h := (u32_ok p28 (l.drop 4) (by rw [List.length_drop]; omega) _))) ?_
  rintro _ _ ⟨rfl, rfl⟩
  rw [show num ((l.drop 4).take 4) = n32 l 4 from rfl, List.drop_drop]
  refine TL.sg ?_
  refine TL.sg ?_
  refine TL.nil (TQ.next (TC.seq (TC.region ?_)))
  refine TL.mv ?_
  refine TL.val rfl rfl rfl (Y.bin rfl rfl rfl (br_shr32 (n := 24))) ?_
  refine TL.as (v32 kd) (by (rw [← hF.kind])) ?_
  refine TL.sg ?_
  refine TL.nil (TQ.next (TC.seq (TC.seq (TC.region ?_))))
  refine TL.mv ?_
  refine TL.eff rfl rfl rfl (X.cl rfl Try.func28 rfl (h := (rd.Bad_fn _ _ _ _))) ?_
  rintro _ _ ⟨rfl, rfl⟩
  refine TL.mv ?_
  refine TL.mg ?_
  refine TL.valG rfl rfl rfl (Y.bin rfl rfl rfl (br_and32 (y := 16777215))) ?_
  refine TL.valG rfl rfl rfl (Y.bin rfl rfl rfl (br_ne32 (y := 0))) ?_
  refine TL.is false (by (simpa using hF.low)) ?_
  refine TL.val rfl rfl rfl (Y.pick_f rfl rfl rfl) ?_
  refine TL.mv ?_
  refine TL.mg ?_
  refine TL.valG rfl rfl rfl (Y.conv rfl Try.underlying22 Try.underlying5 rfl (cv_32_8)) ?_
  refine TL.mg ?_
  refine TL.effG rfl rfl rfl (X.cl rfl Try.func30 rfl (h := (rd.Left_fn _ _ _ _))) ?_
  rintro _ _ ⟨rfl, rfl⟩
  refine TL.as (vN (l.length - 8)) (by (rw [List.length_drop])) ?_
  refine TL.effG rfl rfl rfl (X.cl rfl Try.func29 rfl (h := (fits_fn kd.toUInt8 (l.length - 8) (by omega) _))) ?_
  rintro _ _ ⟨rfl, rfl⟩
  refine TL.valG rfl rfl rfl (Y.not rfl rfl) ?_
  refine TL.is false (by (rw [hF.fits]; rfl)) ?_
  refine TL.val rfl rfl rfl (Y.pick_f rfl rfl rfl) ?_
  refine TL.mv ?_
  refine TL.mg ?_
  refine TL.valG rfl rfl rfl (Y.bin rfl rfl rfl (br_eq32 (y := 0))) ?_
  refine TL.mg ?_
  refine TL.valG rfl rfl rfl (Y.bin rfl rfl rfl (br_eq32 (y := 1))) ?_
  refine TL.valG rfl rfl rfl (Y.neBool rfl Try.underlying4 rfl rfl) ?_
  refine TL.is false (by (have := hF.tagged; by_cases e1 : n32 l 0 = 0 <;> by_cases e2 : kd = 1 <;> simp_all <;> rw [beq_eq_false_iff_ne.2 e1, beq_eq_false_iff_ne.2 e2])) ?_
  refine TL.val rfl rfl rfl (Y.pick_f rfl rfl rfl) ?_
  refine TL.nil (TQ.next ?_)
  refine TC.cond_f rfl ?_
  refine TC.skip (TQ.next (TC.seq (TC.seq (TC.region ?_))))
  refine TL.mv ?_
  refine TL.val rfl rfl rfl (Y.bin rfl rfl rfl (br_leN (n := 2))) ?_
  refine TL.is true (by (subst hkd; decide)) ?_
  refine TL.mv ?_
  refine TL.mg ?_
  refine TL.valG rfl rfl rfl (Y.sliceLo (k := 8) rfl Try.underlying23 sz5 rfl rfl (by omega)) ?_
  refine TL.effG rfl rfl rfl (X.cl rfl Try.func26 rfl (h := (rd.New_gen (SA.rds 1 (.slice a n cap) n (l.map v8)) _ (n - 8) (cap - 8) (l.drop 8) (Reads.tail8 Reads.rds (by omega)) (by rw [List.length_drop]; omega) (by omega) _))) ?_
  rintro _ _ ⟨p62, rfl, rfl⟩
  refine TL.effG rfl rfl rfl (X.cl rfl Try.func27 rfl (h := (u32_ok p62 (l.drop 8) (by rw [List.length_drop]; omega) _))) ?_
  rintro _ _ ⟨rfl, rfl⟩
  rw [show num ((l.drop 8).take 4) = n32 l 8 from rfl]
  refine TL.valG rfl rfl rfl (Y.bin rfl rfl rfl (br_eq32 (y := 0))) ?_
  refine TL.is false (by (simpa using h0)) ?_
  refine TL.val rfl rfl rfl (Y.pick_t rfl rfl rfl) ?_
  refine TL.nil (TQ.next ?_)
  refine TC.cond_f rfl ?_
  refine TC.skip (TQ.next (TC.seq (TC.block (TC.seq (TC.region ?_)))))
  refine TL.mv ?_
  refine TL.val rfl rfl rfl (Y.bin rfl rfl rfl (br_eq32 (y := 1))) ?_
  refine TL.is false (by (subst hkd; decide)) ?_
  refine TL.sg ?_
  refine TL.nil (TQ.next ?_)
  refine TC.cond_f rfl ?_
  refine TC.seq (TC.region ?_)
  refine TL.mv ?_
  refine TL.mv ?_
  refine TL.nc ?_
  refine TL.val rfl rfl rfl (by first | exact Y.fieldAddrJ rfl fo68_0 rfl nqq | exact Y.fieldAddr rfl fo68_0 rfl nqq) ?_
  refine TL.val rfl rfl rfl (Y.load rfl sc22 rfl cel32) ?_
  refine TL.as (v32 S.tag) (by rfl) ?_
  refine TL.val rfl rfl rfl (Y.bin rfl rfl rfl (br_ne32)) ?_
  refine TL.is false (by (simpa using ht)) ?_
  refine TL.sg ?_
  refine TL.nil (TQ.next ?_)
  refine TC.cond_f rfl ?_
  refine TC.seq (TC.region ?_)
  refine TL.mv ?_
  refine TL.val rfl rfl rfl (Y.bin rfl rfl rfl (br_eq32 (y := 2))) ?_
  refine TL.is true (by (subst hkd; decide)) ?_
  refine TL.sg ?_
  refine TL.nil (TQ.next ?_)
  refine TC.cond_t rfl ?_
  refine TC.seq (TC.region ?_)
  refine TL.mv ?_
  refine TL.mv ?_
  refine TL.eff rfl rfl rfl (X.cl rfl Try.func32 rfl (h := (initialAck_yes b p (S.clocked now) p28 (l.drop 8) (by rw [List.length_drop]; omega) hs _))) ?_
  rintro _ _ ⟨o, ha, hc, rfl, ho, rfl⟩
  simp only [List.drop_drop] at ho ⊢
  refine TL.val rfl rfl rfl (Y.extract rfl rfl rfl) ?_
  refine TL.val rfl rfl rfl (Y.extract rfl rfl rfl) ?_
  refine TL.val rfl rfl rfl (Y.extract rfl rfl rfl) ?_
  refine TL.sg ?_
  refine TL.sg ?_
  refine TL.sg ?_
  refine TL.nil (TQ.next (TC.ret (TQ.block_ret (TQ.then_ret ?_))))
  refine TQ.retE (resL rfl (Res.tmp rfl (Res.tmp rfl (Res.tmp rfl Res.nil)))) (⟨o, ha, hc, rfl, ho, rfl⟩) ?_
  exact ett

theorem H_ck_bad (kd : UInt32) (hF : Formed l kd) (hkd : kd = 3) (ht : n32 l 0 = S.tag) (hsec : S.secret.length ≤ 140737488351232) (hc : l.drop 8 ≠ cookieB (S.clocked now) (n32 l 8) (n32 l 12)) (L : List SA) : Fn Try.prog 12 [pt b 0, .slice a n cap, vI now] (aB b p S :: SA.rds 1 (.slice a n cap) n (l.map v8) :: aS p (S.clocked now) :: L) (fun v L' => v = noOut 4 ∧ L' = aB b p (S.clocked now) :: aS p (S.clocked now) :: SA.rds 1 (.slice a n cap) n (l.map v8) :: L) := by
  have hlen := hF.len
  have hl1 : l.length = 44 := by have := hF.fits; subst hkd; simp [fitsB] at this; omega
  refine Fn.of (N := 160) Try.func12 rfl rfl ?_
  intro Xh
  refine TC.seq (TC.region ?_)
  refine TL.sg ?_
  refine TL.sg ?_
  refine TL.sg ?_
  refine TL.nil (TQ.next (TC.seq (TC.seq (TC.region ?_))))
  refine TL.mv ?_
  refine TL.val rfl rfl rfl (by first | exact Y.eqNilP rfl Try.underlying26 rfl rfl | exact Y.eqNil0 rfl Try.underlying26 rfl rfl) ?_
  refine TL.nil (TQ.next ?_)
  refine TC.cond_f rfl ?_
  refine TC.skip (TQ.next (TC.seq (TC.region ?_)))
  refine TL.mv ?_
  refine TL.mv ?_
  refine TL.nc ?_
  refine TL.val rfl rfl rfl (by first | exact Y.fieldAddrJ rfl fo68_11 rfl nqq | exact Y.fieldAddr rfl fo68_11 rfl nqq) ?_
  refine TL.val rfl rfl rfl (Y.load rfl sc2 rfl celN) ?_
  refine TL.as (vI S.clock) (by rfl) ?_
  refine TL.mv ?_
  refine TL.val rfl rfl rfl (Y.maxI rfl rfl rfl) ?_
  refine TL.as (vI (max S.clock now)) (by rfl) ?_
  refine TL.nc ?_
  refine TL.val rfl rfl rfl (by first | exact Y.fieldAddrJ rfl fo68_11 rfl nqq | exact Y.fieldAddr rfl fo68_11 rfl nqq) ?_
  refine TL.eff0 rfl rfl (X.store (cs' := asC p (S.clocked now)) rfl (by kernel_rfl) rfl rfl rfl pul (by show 11 < 17; decide) rfl) ?_
  rintro _ _ rfl
  refine TL.nil (TQ.next (TC.seq (TC.region ?_)))
  refine TL.mv ?_
  refine TL.eff rfl rfl rfl (X.cl rfl Try.func26 rfl (h := (rd.New_fn a n cap l hn hl _))) ?_
  rintro _ _ ⟨p28, rfl, rfl⟩
  refine TL.sg ?_
  refine TL.nil (TQ.next (TC.seq (TC.region ?_)))
  refine TL.mv ?_
  refine TL.eff rfl rfl rfl (X.cl rfl Try.func27 rfl (h := (u32_ok p28 l (by omega) _))) ?_
  rintro _ _ ⟨rfl, rfl⟩
  rw [show num (l.take 4) = n32 l 0 from rfl]
  refine TL.mv ?_
  refine TL.eff rfl rfl rfl (X.cl rfl Try.func27 rfl (h := (u32_ok p28 (l.drop 4) (by rw [List.length_drop]; omega) _))) ?_
  rintro _ _ ⟨rfl, rfl⟩
  rw [show num ((l.drop 4).take 4) = n32 l 4 from rfl, List.drop_drop]
  refine TL.sg ?_
  refine TL.sg ?_
  refine TL.nil (TQ.next (TC.seq (TC.region ?_)))
  refine TL.mv ?_
  refine TL.val rfl rfl rfl (Y.bin rfl rfl rfl (br_shr32 (n := 24))) ?_
  refine TL.as (v32 kd) (by (rw [← hF.kind])) ?_
  refine TL.sg ?_
  refine TL.nil (TQ.next (TC.seq (TC.seq (TC.region ?_))))
  refine TL.mv ?_
  refine TL.eff rfl rfl rfl (X.cl rfl Try.func28 rfl (h := (rd.Bad_fn _ _ _ _))) ?_
  rintro _ _ ⟨rfl, rfl⟩
  refine TL.mv ?_
  refine TL.mg ?_
  refine TL.valG rfl rfl rfl (Y.bin rfl rfl rfl (br_and32 (y := 16777215))) ?_
  refine TL.valG rfl rfl rfl (Y.bin rfl rfl rfl (br_ne32 (y := 0))) ?_
  refine TL.is false (by (simpa using hF.low)) ?_
  refine TL.val rfl rfl rfl (Y.pick_f rfl rfl rfl) ?_
  refine TL.mv ?_
  refine TL.mg ?_
  refine TL.valG rfl rfl rfl (Y.conv rfl Try.underlying22 Try.underlying5 rfl (cv_32_8)) ?_
  refine TL.mg ?_
  refine TL.effG rfl rfl rfl (X.cl rfl Try.func30 rfl (h := (rd.Left_fn _ _ _ _))) ?_
  rintro _ _ ⟨rfl, rfl⟩
  refine TL.as (vN (l.length - 8)) (by (rw [List.length_drop])) ?_
  refine TL.effG rfl rfl rfl (X.cl rfl Try.func29 rfl (h := (fits_fn kd.toUInt8 (l.length - 8) (by omega) _))) ?_
  rintro _ _ ⟨rfl, rfl⟩
  refine TL.valG rfl rfl rfl (Y.not rfl rfl) ?_
  refine TL.is false (by (rw [hF.fits]; rfl)) ?_
  refine TL.val rfl rfl rfl (Y.pick_f rfl rfl rfl) ?_
  refine TL.mv ?_
  refine TL.mg ?_
  refine TL.valG rfl rfl rfl (Y.bin rfl rfl rfl (br_eq32 (y := 0))) ?_
  refine TL.mg ?_
  refine TL.valG rfl rfl rfl (Y.bin rfl rfl rfl (br_eq32 (y := 1))) ?_
  refine TL.valG rfl rfl rfl (Y.neBool rfl Try.underlying4 rfl rfl) ?_
  refine TL.is false (by (have := hF.tagged; by_cases e1 : n32 l 0 = 0 <;> by_cases e2 : kd = 1 <;> simp_all <;> rw [beq_eq_false_iff_ne.2 e1, beq_eq_false_iff_ne.2 e2])) ?_
  refine TL.val rfl rfl rfl (Y.pick_f rfl rfl rfl) ?_
  refine TL.nil (TQ.next ?_)
  refine TC.cond_f rfl ?_
  refine TC.skip (TQ.next (TC.seq (TC.seq (TC.region ?_))))
  refine TL.mv ?_
  refine TL.val rfl rfl rfl (Y.bin rfl rfl rfl (br_leN (n := 2))) ?_
  refine TL.is false (by (subst hkd; decide)) ?_
  refine TL.mv ?_
  refine TL.not rfl rfl rfl ?_
  refine TL.not rfl rfl rfl ?_
  refine TL.not rfl rfl rfl ?_
  refine TL.not rfl rfl rfl ?_
  refine TL.not rfl rfl rfl ?_
  refine TL.val rfl rfl rfl (Y.pick_f rfl rfl rfl) ?_
  refine TL.nil (TQ.next ?_)
  refine TC.cond_f rfl ?_
  refine TC.skip (TQ.next (TC.seq (TC.block (TC.seq (TC.region ?_)))))
  refine TL.mv ?_
  refine TL.val rfl rfl rfl (Y.bin rfl rfl rfl (br_eq32 (y := 1))) ?_
  refine TL.is false (by (subst hkd; decide)) ?_
  refine TL.sg ?_
  refine TL.nil (TQ.next ?_)
  refine TC.cond_f rfl ?_
  refine TC.seq (TC.region ?_)
  refine TL.mv ?_
  refine TL.mv ?_
  refine TL.nc ?_
  refine TL.val rfl rfl rfl (by first | exact Y.fieldAddrJ rfl fo68_0 rfl nqq | exact Y.fieldAddr rfl fo68_0 rfl nqq) ?_
  refine TL.val rfl rfl rfl (Y.load rfl sc22 rfl cel32) ?_
  refine TL.as (v32 S.tag) (by rfl) ?_
  refine TL.val rfl rfl rfl (Y.bin rfl rfl rfl (br_ne32)) ?_
  refine TL.is false (by (simpa using ht)) ?_
  refine TL.sg ?_
  refine TL.nil (TQ.next ?_)
  refine TC.cond_f rfl ?_
  refine TC.seq (TC.region ?_)
  refine TL.mv ?_
  refine TL.val rfl rfl rfl (Y.bin rfl rfl rfl (br_eq32 (y := 2))) ?_
  refine TL.is false (by (subst hkd; decide)) ?_
  refine TL.sg ?_
  refine TL.nil (TQ.next ?_)
  refine TC.cond_f rfl ?_
  refine TC.seq (TC.region ?_)
  refine TL.mv ?_
  refine TL.val rfl rfl rfl (Y.bin rfl rfl rfl (br_eq32 (y := 3))) ?_
  refine TL.is true (by (subst hkd; decide)) ?_
  refine TL.sg ?_
  refine TL.nil (TQ.next ?_)
  refine TC.cond_t rfl ?_
  refine TC.seq (TC.region ?_)
  refine TL.mv ?_
  refine TL.mv ?_
  refine TL.eff rfl rfl rfl (X.cl rfl Try.func33 rfl (h := (cookied_bad b p (S.clocked now) p28 (l.drop 8) (by rw [List.length_drop]; omega) hsec (by rw [List.drop_drop]; exact hc) _))) ?_
  rintro _ _ ⟨rfl, rfl⟩
  refine TL.val rfl rfl rfl (Y.extract rfl rfl rfl) ?_
  refine TL.val rfl rfl rfl (Y.extract rfl rfl rfl) ?_
  refine TL.val rfl rfl rfl (Y.extract rfl rfl rfl) ?_
  refine TL.sg ?_
  refine TL.sg ?_
  refine TL.sg ?_
  refine TL.nil (TQ.next (TC.ret (TQ.block_ret (TQ.then_ret ?_))))
  refine TQ.retE (resL rfl (Res.tmp rfl (Res.tmp rfl (Res.tmp rfl Res.nil)))) (⟨rfl, rfl⟩) ?_
  exact ett

theorem H_ck_no (kd : UInt32) (hF : Formed l kd) (hkd : kd = 3) (ht : n32 l 0 = S.tag) (hsec : S.secret.length ≤ 140737488351232) (hc : l.drop 8 = cookieB (S.clocked now) (n32 l 8) (n32 l 12)) (h0 : S.state ≠ 0) (h3 : S.state ≠ 3 ∨ S.other ≠ n32 l 8) (L : List SA) : Fn Try.prog 12 [pt b 0, .slice a n cap, vI now] (aB b p S :: SA.rds 1 (.slice a n cap) n (l.map v8) :: aS p (S.clocked now) :: L) (fun v L' => v = noOut 9 ∧ L' = aB b p (S.clocked now) :: aS p (S.clocked now) :: SA.rds 1 (.slice a n cap) n (l.map v8) :: L) := by
  have hlen := hF.len
  have hl1 : l.length = 44 := by have := hF.fits; subst hkd; simp [fitsB] at this; omega
  refine Fn.of (N := 160) Try.func12 rfl rfl ?_
  intro Xh
  refine TC.seq (TC.region ?_)
  refine TL.sg ?_
  refine TL.sg ?_
  refine TL.sg ?_
  refine TL.nil (TQ.next (TC.seq (TC.seq (TC.region ?_))))
  refine TL.mv ?_
  refine TL.val rfl rfl rfl (by first | exact Y.eqNilP rfl Try.underlying26 rfl rfl | exact Y.eqNil0 rfl Try.underlying26 rfl rfl) ?_
  refine TL.nil (TQ.next ?_)
  refine TC.cond_f rfl ?_
  refine TC.skip (TQ.next (TC.seq (TC.region ?_)))
  refine TL.mv ?_
  refine TL.mv ?_
  refine TL.nc ?_
  refine TL.val rfl rfl rfl (by first | exact Y.fieldAddrJ rfl fo68_11 rfl nqq | exact Y.fieldAddr rfl fo68_11 rfl nqq) ?_
  refine TL.val rfl rfl rfl (Y.load rfl sc2 rfl celN) ?_
  refine TL.as (vI S.clock) (by rfl) ?_
  refine TL.mv ?_
  refine TL.val rfl rfl rfl (Y.maxI rfl rfl rfl) ?_
  refine TL.as (vI (max S.clock now)) (by rfl) ?_
  refine TL.nc ?_
  refine TL.val rfl rfl rfl (by first | exact Y.fieldAddrJ rfl fo68_11 rfl nqq | exact Y.fieldAddr rfl fo68_11 rfl nqq) ?_
  refine TL.eff0 rfl rfl (X.store (cs' := asC p (S.clocked now)) rfl (by kernel_rfl) rfl rfl rfl pul (by show 11 < 17; decide) rfl) ?_
  rintro _ _ rfl
  refine TL.nil (TQ.next (TC.seq (TC.region ?_)))
  refine TL.mv ?_
  refine TL.eff rfl rfl rfl (X.cl rfl Try.func26 rfl (h := (rd.New_fn a n cap l hn hl _))) ?_
  rintro _ _ ⟨p28, rfl, rfl⟩
  refine TL.sg ?_
  refine TL.nil (TQ.next (TC.seq (TC.region ?_)))
  refine TL.mv ?_
  refine TL.eff rfl rfl rfl (X.cl rfl Try.func27 rfl (h := (u32_ok p28 l (by omega) _))) ?_
  rintro _ _ ⟨rfl, rfl⟩
  rw [show num (l.take 4) = n32 l 0 from rfl]
  refine TL.mv ?_
  refine TL.eff rfl rfl rfl (X.cl rfl Try.func27 rfl (h := (u32_ok p28 (l.drop 4) (by rw [List.length_drop]; omega) _))) ?_
  rintro _ _ ⟨rfl, rfl⟩
  rw [show num ((l.drop 4).take 4) = n32 l 4 from rfl, List.drop_drop]
  refine TL.sg ?_
  refine TL.sg ?_
  refine TL.nil (TQ.next (TC.seq (TC.region ?_)))
  refine TL.mv ?_
  refine TL.val rfl rfl rfl (Y.bin rfl rfl rfl (br_shr32 (n := 24))) ?_
  refine TL.as (v32 kd) (by (rw [← hF.kind])) ?_
  refine TL.sg ?_
  refine TL.nil (TQ.next (TC.seq (TC.seq (TC.region ?_))))
  refine TL.mv ?_
  refine TL.eff rfl rfl rfl (X.cl rfl Try.func28 rfl (h := (rd.Bad_fn _ _ _ _))) ?_
  rintro _ _ ⟨rfl, rfl⟩
  refine TL.mv ?_
  refine TL.mg ?_
  refine TL.valG rfl rfl rfl (Y.bin rfl rfl rfl (br_and32 (y := 16777215))) ?_
  refine TL.valG rfl rfl rfl (Y.bin rfl rfl rfl (br_ne32 (y := 0))) ?_
  refine TL.is false (by (simpa using hF.low)) ?_
  refine TL.val rfl rfl rfl (Y.pick_f rfl rfl rfl) ?_
  refine TL.mv ?_
  refine TL.mg ?_
  refine TL.valG rfl rfl rfl (Y.conv rfl Try.underlying22 Try.underlying5 rfl (cv_32_8)) ?_
  refine TL.mg ?_
  refine TL.effG rfl rfl rfl (X.cl rfl Try.func30 rfl (h := (rd.Left_fn _ _ _ _))) ?_
  rintro _ _ ⟨rfl, rfl⟩
  refine TL.as (vN (l.length - 8)) (by (rw [List.length_drop])) ?_
  refine TL.effG rfl rfl rfl (X.cl rfl Try.func29 rfl (h := (fits_fn kd.toUInt8 (l.length - 8) (by omega) _))) ?_
  rintro _ _ ⟨rfl, rfl⟩
  refine TL.valG rfl rfl rfl (Y.not rfl rfl) ?_
  refine TL.is false (by (rw [hF.fits]; rfl)) ?_
  refine TL.val rfl rfl rfl (Y.pick_f rfl rfl rfl) ?_
  refine TL.mv ?_
  refine TL.mg ?_
  refine TL.valG rfl rfl rfl (Y.bin rfl rfl rfl (br_eq32 (y := 0))) ?_
  refine TL.mg ?_
  refine TL.valG rfl rfl rfl (Y.bin rfl rfl rfl (br_eq32 (y := 1))) ?_
  refine TL.valG rfl rfl rfl (Y.neBool rfl Try.underlying4 rfl rfl) ?_
  refine TL.is false (by (have := hF.tagged; by_cases e1 : n32 l 0 = 0 <;> by_cases e2 : kd = 1 <;> simp_all <;> rw [beq_eq_false_iff_ne.2 e1, beq_eq_false_iff_ne.2 e2])) ?_
  refine TL.val rfl rfl rfl (Y.pick_f rfl rfl rfl) ?_
  refine TL.nil (TQ.next ?_)
  refine TC.cond_f rfl ?_
  refine TC.skip (TQ.next (TC.seq (TC.seq (TC.region ?_))))
  refine TL.mv ?_
  refine TL.val rfl rfl rfl (Y.bin rfl rfl rfl (br_leN (n := 2))) ?_
  refine TL.is false (by (subst hkd; decide)) ?_
  refine TL.mv ?_
  refine TL.not rfl rfl rfl ?_
  refine TL.not rfl rfl rfl ?_
  refine TL.not rfl rfl rfl ?_
  refine TL.not rfl rfl rfl ?_
  refine TL.not rfl rfl rfl ?_
  refine TL.val rfl rfl rfl (Y.pick_f rfl rfl rfl) ?_
  refine TL.nil (TQ.next ?_)
  refine TC.cond_f rfl ?_
  refine TC.skip (TQ.next (TC.seq (TC.block (TC.seq (TC.region ?_)))))
  refine TL.mv ?_
  refine TL.val rfl rfl rfl (Y.bin rfl rfl rfl (br_eq32 (y := 1))) ?_
  refine TL.is false (by (subst hkd; decide)) ?_
  refine TL.sg ?_
  refine TL.nil (TQ.next ?_)
  refine TC.cond_f rfl ?_
  refine TC.seq (TC.region ?_)
  refine TL.mv ?_
  refine TL.mv ?_
  refine TL.nc ?_
  refine TL.val rfl rfl rfl (by first | exact Y.fieldAddrJ rfl fo68_0 rfl nqq | exact Y.fieldAddr rfl fo68_0 rfl nqq) ?_
  refine TL.val rfl rfl rfl (Y.load rfl sc22 rfl cel32) ?_
  refine TL.as (v32 S.tag) (by rfl) ?_
  refine TL.val rfl rfl rfl (Y.bin rfl rfl rfl (br_ne32)) ?_
  refine TL.is false (by (simpa using ht)) ?_
  refine TL.sg ?_
  refine TL.nil (TQ.next ?_)
  refine TC.cond_f rfl ?_
  refine TC.seq (TC.region ?_)
  refine TL.mv ?_
  refine TL.val rfl rfl rfl (Y.bin rfl rfl rfl (br_eq32 (y := 2))) ?_
  refine TL.is false (by (subst hkd; decide)) ?_
  refine TL.sg ?_
  refine TL.nil (TQ.next ?_)
  refine TC.cond_f rfl ?_
  refine TC.seq (TC.region ?_)
  refine TL.mv ?_
  refine TL.val rfl rfl rfl (Y.bin rfl rfl rfl (br_eq32 (y := 3))) ?_
  refine TL.is true (by (subst hkd; decide)) ?_
  refine TL.sg ?_
  refine TL.nil (TQ.next ?_)
  refine TC.cond_t rfl ?_
  refine TC.seq (TC.region ?_)
  refine TL.mv ?_
  refine TL.mv ?_
  refine TL.eff rfl rfl rfl (X.cl rfl Try.func33 rfl (h := (cookied_no b p (S.clocked now) p28 (l.drop 8) (by rw [List.length_drop]; omega) hsec (by rw [List.drop_drop]; exact hc) h0 h3 _))) ?_
  rintro _ _ ⟨rfl, rfl⟩
  refine TL.val rfl rfl rfl (Y.extract rfl rfl rfl) ?_
  refine TL.val rfl rfl rfl (Y.extract rfl rfl rfl) ?_
  refine TL.val rfl rfl rfl (Y.extract rfl rfl rfl) ?_
  refine TL.sg ?_
  refine TL.sg ?_
  refine TL.sg ?_
  refine TL.nil (TQ.next (TC.ret (TQ.block_ret (TQ.then_ret ?_))))
  refine TQ.retE (resL rfl (Res.tmp rfl (Res.tmp rfl (Res.tmp rfl Res.nil)))) (⟨rfl, rfl⟩) ?_
  exact ett

theorem H_ck_open (kd : UInt32) (hF : Formed l kd) (hkd : kd = 3) (ht : n32 l 0 = S.tag) (hsec : S.secret.length ≤ 140737488351232) (hc : l.drop 8 = cookieB (S.clocked now) (n32 l 8) (n32 l 12)) (h0 : S.state = 0) (L : List SA) : Fn Try.prog 12 [pt b 0, .slice a n cap, vI now] (aB b p S :: SA.rds 1 (.slice a n cap) n (l.map v8) :: aS p (S.clocked now) :: L) (fun v L' => ∃ o : Sl Bs, v = .tuple #[o.v, .slice none 0 0, vN 0] ∧ o.l.map (·.l) = [pkt (n32 l 8) 4] ∧ L' = SA.dat o :: aB b p ((S.clocked now).opened (n32 l 8) (n32 l 12)) :: aS p (S.clocked now) :: SA.rds 1 (.slice a n cap) n (l.map v8) :: L) := by
  have hlen := hF.len
  have hl1 : l.length = 44 := by have := hF.fits; subst hkd; simp [fitsB] at this; omega
  refine Fn.of (N := 160) Try.func12 rfl rfl ?_
  intro Xh
  refine TC.seq (TC.region ?_)
  refine TL.sg ?_
  refine TL.sg ?_
  refine TL.sg ?_
  refine TL.nil (TQ.next (TC.seq (TC.seq (TC.region ?_))))
  refine TL.mv ?_
  refine TL.val rfl rfl rfl (by first | exact Y.eqNilP rfl Try.underlying26 rfl rfl | exact Y.eqNil0 rfl Try.underlying26 rfl rfl) ?_
  refine TL.nil (TQ.next ?_)
  refine TC.cond_f rfl ?_
  refine TC.skip (TQ.next (TC.seq (TC.region ?_)))
  refine TL.mv ?_
  refine TL.mv ?_
  refine TL.nc ?_
  refine TL.val rfl rfl rfl (by first | exact Y.fieldAddrJ rfl fo68_11 rfl nqq | exact Y.fieldAddr rfl fo68_11 rfl nqq) ?_
  refine TL.val rfl rfl rfl (Y.load rfl sc2 rfl celN) ?_
  refine TL.as (vI S.clock) (by rfl) ?_
  refine TL.mv ?_
  refine TL.val rfl rfl rfl (Y.maxI rfl rfl rfl) ?_
  refine TL.as (vI (max S.clock now)) (by rfl) ?_
  refine TL.nc ?_
  refine TL.val rfl rfl rfl (by first | exact Y.fieldAddrJ rfl fo68_11 rfl nqq | exact Y.fieldAddr rfl fo68_11 rfl nqq) ?_
  refine TL.eff0 rfl rfl (X.store (cs' := asC p (S.clocked now)) rfl (by kernel_rfl) rfl rfl rfl pul (by show 11 < 17; decide) rfl) ?_
  rintro _ _ rfl
  refine TL.nil (TQ.next (TC.seq (TC.region ?_)))
  refine TL.mv ?_
  refine TL.eff rfl rfl rfl (X.cl rfl Try.func26 rfl (h := (rd.New_fn a n cap l hn hl _))) ?_
  rintro _ _ ⟨p28, rfl, rfl⟩
  refine TL.sg ?_
  refine TL.nil (TQ.next (TC.seq (TC.region ?_)))
  refine TL.mv ?_
  refine TL.eff rfl rfl rfl (X.cl rfl Try.func27 rfl (h := (u32_ok p28 l (by omega) _))) ?_
  rintro _ _ ⟨rfl, rfl⟩
  rw [show num (l.take 4) = n32 l 0 from rfl]
  refine TL.mv ?_
  refine TL.eff rfl rfl rfl (X.cl rfl Try.func27 rfl (h := (u32_ok p28 (l.drop 4) (by rw [List.length_drop]; omega) _))) ?_
  rintro _ _ ⟨rfl, rfl⟩
  rw [show num ((l.drop 4).take 4) = n32 l 4 from rfl, List.drop_drop]
  refine TL.sg ?_
  refine TL.sg ?_
  refine TL.nil (TQ.next (TC.seq (TC.region ?_)))
  refine TL.mv ?_
  refine TL.val rfl rfl rfl (Y.bin rfl rfl rfl (br_shr32 (n := 24))) ?_
  refine TL.as (v32 kd) (by (rw [← hF.kind])) ?_
  refine TL.sg ?_
  refine TL.nil (TQ.next (TC.seq (TC.seq (TC.region ?_))))
  refine TL.mv ?_
  refine TL.eff rfl rfl rfl (X.cl rfl Try.func28 rfl (h := (rd.Bad_fn _ _ _ _))) ?_
  rintro _ _ ⟨rfl, rfl⟩
  refine TL.mv ?_
  refine TL.mg ?_
  refine TL.valG rfl rfl rfl (Y.bin rfl rfl rfl (br_and32 (y := 16777215))) ?_
  refine TL.valG rfl rfl rfl (Y.bin rfl rfl rfl (br_ne32 (y := 0))) ?_
  refine TL.is false (by (simpa using hF.low)) ?_
  refine TL.val rfl rfl rfl (Y.pick_f rfl rfl rfl) ?_
  refine TL.mv ?_
  refine TL.mg ?_
  refine TL.valG rfl rfl rfl (Y.conv rfl Try.underlying22 Try.underlying5 rfl (cv_32_8)) ?_
  refine TL.mg ?_
  refine TL.effG rfl rfl rfl (X.cl rfl Try.func30 rfl (h := (rd.Left_fn _ _ _ _))) ?_
  rintro _ _ ⟨rfl, rfl⟩
  refine TL.as (vN (l.length - 8)) (by (rw [List.length_drop])) ?_
  refine TL.effG rfl rfl rfl (X.cl rfl Try.func29 rfl (h := (fits_fn kd.toUInt8 (l.length - 8) (by omega) _))) ?_
  rintro _ _ ⟨rfl, rfl⟩
  refine TL.valG rfl rfl rfl (Y.not rfl rfl) ?_
  refine TL.is false (by (rw [hF.fits]; rfl)) ?_
  refine TL.val rfl rfl rfl (Y.pick_f rfl rfl rfl) ?_
  refine TL.mv ?_
  refine TL.mg ?_
  refine TL.valG rfl rfl rfl (Y.bin rfl rfl rfl (br_eq32 (y := 0))) ?_
  refine TL.mg ?_
  refine TL.valG rfl rfl rfl (Y.bin rfl rfl rfl (br_eq32 (y := 1))) ?_
  refine TL.valG rfl rfl rfl (Y.neBool rfl Try.underlying4 rfl rfl) ?_
  refine TL.is false (by (have := hF.tagged; by_cases e1 : n32 l 0 = 0 <;> by_cases e2 : kd = 1 <;> simp_all <;> rw [beq_eq_false_iff_ne.2 e1, beq_eq_false_iff_ne.2 e2])) ?_
  refine TL.val rfl rfl rfl (Y.pick_f rfl rfl rfl) ?_
  refine TL.nil (TQ.next ?_)
  refine TC.cond_f rfl ?_
  refine TC.skip (TQ.next (TC.seq (TC.seq (TC.region ?_))))
  refine TL.mv ?_
  refine TL.val rfl rfl rfl (Y.bin rfl rfl rfl (br_leN (n := 2))) ?_
  refine TL.is false (by (subst hkd; decide)) ?_
  refine TL.mv ?_
  refine TL.not rfl rfl rfl ?_
  refine TL.not rfl rfl rfl ?_
  refine TL.not rfl rfl rfl ?_
  refine TL.not rfl rfl rfl ?_
  refine TL.not rfl rfl rfl ?_
  refine TL.val rfl rfl rfl (Y.pick_f rfl rfl rfl) ?_
  refine TL.nil (TQ.next ?_)
  refine TC.cond_f rfl ?_
  refine TC.skip (TQ.next (TC.seq (TC.block (TC.seq (TC.region ?_)))))
  refine TL.mv ?_
  refine TL.val rfl rfl rfl (Y.bin rfl rfl rfl (br_eq32 (y := 1))) ?_
  refine TL.is false (by (subst hkd; decide)) ?_
  refine TL.sg ?_
  refine TL.nil (TQ.next ?_)
  refine TC.cond_f rfl ?_
  refine TC.seq (TC.region ?_)
  refine TL.mv ?_
  refine TL.mv ?_
  refine TL.nc ?_
  refine TL.val rfl rfl rfl (by first | exact Y.fieldAddrJ rfl fo68_0 rfl nqq | exact Y.fieldAddr rfl fo68_0 rfl nqq) ?_
  refine TL.val rfl rfl rfl (Y.load rfl sc22 rfl cel32) ?_
  refine TL.as (v32 S.tag) (by rfl) ?_
  refine TL.val rfl rfl rfl (Y.bin rfl rfl rfl (br_ne32)) ?_
  refine TL.is false (by (simpa using ht)) ?_
  refine TL.sg ?_
  refine TL.nil (TQ.next ?_)
  refine TC.cond_f rfl ?_
  refine TC.seq (TC.region ?_)
  refine TL.mv ?_
  refine TL.val rfl rfl rfl (Y.bin rfl rfl rfl (br_eq32 (y := 2))) ?_
  refine TL.is false (by (subst hkd; decide)) ?_
  refine TL.sg ?_
  refine TL.nil (TQ.next ?_)
  refine TC.cond_f rfl ?_
  refine TC.seq (TC.region ?_)
  refine TL.mv ?_
  refine TL.val rfl rfl rfl (Y.bin rfl rfl rfl (br_eq32 (y := 3))) ?_
  refine TL.is true (by (subst hkd; decide)) ?_
  refine TL.sg ?_
  refine TL.nil (TQ.next ?_)
  refine TC.cond_t rfl ?_
  refine TC.seq (TC.region ?_)
  refine TL.mv ?_
  refine TL.mv ?_
  refine TL.eff rfl rfl rfl (X.cl rfl Try.func33 rfl (h := (cookied_open b p (S.clocked now) p28 (l.drop 8) (by rw [List.length_drop]; omega) hsec (by rw [List.drop_drop]; exact hc) h0 _))) ?_
  rintro _ _ ⟨o, rfl, ho, rfl⟩
  simp only [List.drop_drop] at ho ⊢
  refine TL.val rfl rfl rfl (Y.extract rfl rfl rfl) ?_
  refine TL.val rfl rfl rfl (Y.extract rfl rfl rfl) ?_
  refine TL.val rfl rfl rfl (Y.extract rfl rfl rfl) ?_
  refine TL.sg ?_
  refine TL.sg ?_
  refine TL.sg ?_
  refine TL.nil (TQ.next (TC.ret (TQ.block_ret (TQ.then_ret ?_))))
  refine TQ.retE (resL rfl (Res.tmp rfl (Res.tmp rfl (Res.tmp rfl Res.nil)))) (⟨o, rfl, ho, rfl⟩) ?_
  exact ett

theorem H_ck_again (kd : UInt32) (hF : Formed l kd) (hkd : kd = 3) (ht : n32 l 0 = S.tag) (hsec : S.secret.length ≤ 140737488351232) (hc : l.drop 8 = cookieB (S.clocked now) (n32 l 8) (n32 l 12)) (h3 : S.state = 3) (ho : S.other = n32 l 8) (L : List SA) : Fn Try.prog 12 [pt b 0, .slice a n cap, vI now] (aB b p S :: SA.rds 1 (.slice a n cap) n (l.map v8) :: aS p (S.clocked now) :: L) (fun v L' => ∃ o : Sl Bs, v = .tuple #[o.v, .slice none 0 0, vN 0] ∧ o.l.map (·.l) = [pkt S.other 4] ∧ L' = SA.dat o :: aB b p (S.clocked now) :: aS p (S.clocked now) :: SA.rds 1 (.slice a n cap) n (l.map v8) :: L) := by
  have hlen := hF.len
  have hl1 : l.length = 44 := by have := hF.fits; subst hkd; simp [fitsB] at this; omega
  refine Fn.of (N := 160) Try.func12 rfl rfl ?_
  intro Xh
  refine TC.seq (TC.region ?_)
  refine TL.sg ?_
  refine TL.sg ?_
  refine TL.sg ?_
  refine TL.nil (TQ.next (TC.seq (TC.seq (TC.region ?_))))
  refine TL.mv ?_
  refine TL.val rfl rfl rfl (by first | exact Y.eqNilP rfl Try.underlying26 rfl rfl | exact Y.eqNil0 rfl Try.underlying26 rfl rfl) ?_
  refine TL.nil (TQ.next ?_)
  refine TC.cond_f rfl ?_
  refine TC.skip (TQ.next (TC.seq (TC.region ?_)))
  refine TL.mv ?_
  refine TL.mv ?_
  refine TL.nc ?_
  refine TL.val rfl rfl rfl (by first | exact Y.fieldAddrJ rfl fo68_11 rfl nqq | exact Y.fieldAddr rfl fo68_11 rfl nqq) ?_
  refine TL.val rfl rfl rfl (Y.load rfl sc2 rfl celN) ?_
  refine TL.as (vI S.clock) (by rfl) ?_
  refine TL.mv ?_
  refine TL.val rfl rfl rfl (Y.maxI rfl rfl rfl) ?_
  refine TL.as (vI (max S.clock now)) (by rfl) ?_
  refine TL.nc ?_
  refine TL.val rfl rfl rfl (by first | exact Y.fieldAddrJ rfl fo68_11 rfl nqq | exact Y.fieldAddr rfl fo68_11 rfl nqq) ?_
  refine TL.eff0 rfl rfl (X.store (cs' := asC p (S.clocked now)) rfl (by kernel_rfl) rfl rfl rfl pul (by show 11 < 17; decide) rfl) ?_
  rintro _ _ rfl
  refine TL.nil (TQ.next (TC.seq (TC.region ?_)))
  refine TL.mv ?_
  refine TL.eff rfl rfl rfl (X.cl rfl Try.func26 rfl (h := (rd.New_fn a n cap l hn hl _))) ?_
  rintro _ _ ⟨p28, rfl, rfl⟩
  refine TL.sg ?_
  refine TL.nil (TQ.next (TC.seq (TC.region ?_)))
  refine TL.mv ?_
  refine TL.eff rfl rfl rfl (X.cl rfl Try.func27 rfl (h := (u32_ok p28 l (by omega) _))) ?_
  rintro _ _ ⟨rfl, rfl⟩
  rw [show num (l.take 4) = n32 l 0 from rfl]
  refine TL.mv ?_
  refine TL.eff rfl rfl rfl (X.cl rfl Try.func27 rfl (h := (u32_ok p28 (l.drop 4) (by rw [List.length_drop]; omega) _))) ?_
  rintro _ _ ⟨rfl, rfl⟩
  rw [show num ((l.drop 4).take 4) = n32 l 4 from rfl, List.drop_drop]
  refine TL.sg ?_
  refine TL.sg ?_
  refine TL.nil (TQ.next (TC.seq (TC.region ?_)))
  refine TL.mv ?_
  refine TL.val rfl rfl rfl (Y.bin rfl rfl rfl (br_shr32 (n := 24))) ?_
  refine TL.as (v32 kd) (by (rw [← hF.kind])) ?_
  refine TL.sg ?_
  refine TL.nil (TQ.next (TC.seq (TC.seq (TC.region ?_))))
  refine TL.mv ?_
  refine TL.eff rfl rfl rfl (X.cl rfl Try.func28 rfl (h := (rd.Bad_fn _ _ _ _))) ?_
  rintro _ _ ⟨rfl, rfl⟩
  refine TL.mv ?_
  refine TL.mg ?_
  refine TL.valG rfl rfl rfl (Y.bin rfl rfl rfl (br_and32 (y := 16777215))) ?_
  refine TL.valG rfl rfl rfl (Y.bin rfl rfl rfl (br_ne32 (y := 0))) ?_
  refine TL.is false (by (simpa using hF.low)) ?_
  refine TL.val rfl rfl rfl (Y.pick_f rfl rfl rfl) ?_
  refine TL.mv ?_
  refine TL.mg ?_
  refine TL.valG rfl rfl rfl (Y.conv rfl Try.underlying22 Try.underlying5 rfl (cv_32_8)) ?_
  refine TL.mg ?_
  refine TL.effG rfl rfl rfl (X.cl rfl Try.func30 rfl (h := (rd.Left_fn _ _ _ _))) ?_
  rintro _ _ ⟨rfl, rfl⟩
  refine TL.as (vN (l.length - 8)) (by (rw [List.length_drop])) ?_
  refine TL.effG rfl rfl rfl (X.cl rfl Try.func29 rfl (h := (fits_fn kd.toUInt8 (l.length - 8) (by omega) _))) ?_
  rintro _ _ ⟨rfl, rfl⟩
  refine TL.valG rfl rfl rfl (Y.not rfl rfl) ?_
  refine TL.is false (by (rw [hF.fits]; rfl)) ?_
  refine TL.val rfl rfl rfl (Y.pick_f rfl rfl rfl) ?_
  refine TL.mv ?_
  refine TL.mg ?_
  refine TL.valG rfl rfl rfl (Y.bin rfl rfl rfl (br_eq32 (y := 0))) ?_
  refine TL.mg ?_
  refine TL.valG rfl rfl rfl (Y.bin rfl rfl rfl (br_eq32 (y := 1))) ?_
  refine TL.valG rfl rfl rfl (Y.neBool rfl Try.underlying4 rfl rfl) ?_
  refine TL.is false (by (have := hF.tagged; by_cases e1 : n32 l 0 = 0 <;> by_cases e2 : kd = 1 <;> simp_all <;> rw [beq_eq_false_iff_ne.2 e1, beq_eq_false_iff_ne.2 e2])) ?_
  refine TL.val rfl rfl rfl (Y.pick_f rfl rfl rfl) ?_
  refine TL.nil (TQ.next ?_)
  refine TC.cond_f rfl ?_
  refine TC.skip (TQ.next (TC.seq (TC.seq (TC.region ?_))))
  refine TL.mv ?_
  refine TL.val rfl rfl rfl (Y.bin rfl rfl rfl (br_leN (n := 2))) ?_
  refine TL.is false (by (subst hkd; decide)) ?_
  refine TL.mv ?_
  refine TL.not rfl rfl rfl ?_
  refine TL.not rfl rfl rfl ?_
  refine TL.not rfl rfl rfl ?_
  refine TL.not rfl rfl rfl ?_
  refine TL.not rfl rfl rfl ?_
  refine TL.val rfl rfl rfl (Y.pick_f rfl rfl rfl) ?_
  refine TL.nil (TQ.next ?_)
  refine TC.cond_f rfl ?_
  refine TC.skip (TQ.next (TC.seq (TC.block (TC.seq (TC.region ?_)))))
  refine TL.mv ?_
  refine TL.val rfl rfl rfl (Y.bin rfl rfl rfl (br_eq32 (y := 1))) ?_
  refine TL.is false (by (subst hkd; decide)) ?_
  refine TL.sg ?_
  refine TL.nil (TQ.next ?_)
  refine TC.cond_f rfl ?_
  refine TC.seq (TC.region ?_)
  refine TL.mv ?_
  refine TL.mv ?_
  refine TL.nc ?_
  refine TL.val rfl rfl rfl (by first | exact Y.fieldAddrJ rfl fo68_0 rfl nqq | exact Y.fieldAddr rfl fo68_0 rfl nqq) ?_
  refine TL.val rfl rfl rfl (Y.load rfl sc22 rfl cel32) ?_
  refine TL.as (v32 S.tag) (by rfl) ?_
  refine TL.val rfl rfl rfl (Y.bin rfl rfl rfl (br_ne32)) ?_
  refine TL.is false (by (simpa using ht)) ?_
  refine TL.sg ?_
  refine TL.nil (TQ.next ?_)
  refine TC.cond_f rfl ?_
  refine TC.seq (TC.region ?_)
  refine TL.mv ?_
  refine TL.val rfl rfl rfl (Y.bin rfl rfl rfl (br_eq32 (y := 2))) ?_
  refine TL.is false (by (subst hkd; decide)) ?_
  refine TL.sg ?_
  refine TL.nil (TQ.next ?_)
  refine TC.cond_f rfl ?_
  refine TC.seq (TC.region ?_)
  refine TL.mv ?_
  refine TL.val rfl rfl rfl (Y.bin rfl rfl rfl (br_eq32 (y := 3))) ?_
  refine TL.is true (by (subst hkd; decide)) ?_
  refine TL.sg ?_
  refine TL.nil (TQ.next ?_)
  refine TC.cond_t rfl ?_
  refine TC.seq (TC.region ?_)
  refine TL.mv ?_
  refine TL.mv ?_
  refine TL.eff rfl rfl rfl (X.cl rfl Try.func33 rfl (h := (cookied_again b p (S.clocked now) p28 (l.drop 8) (by rw [List.length_drop]; omega) hsec (by rw [List.drop_drop]; exact hc) h3 ho _))) ?_
  rintro _ _ ⟨o, rfl, ho, rfl⟩
  refine TL.val rfl rfl rfl (Y.extract rfl rfl rfl) ?_
  refine TL.val rfl rfl rfl (Y.extract rfl rfl rfl) ?_
  refine TL.val rfl rfl rfl (Y.extract rfl rfl rfl) ?_
  refine TL.sg ?_
  refine TL.sg ?_
  refine TL.sg ?_
  refine TL.nil (TQ.next (TC.ret (TQ.block_ret (TQ.then_ret ?_))))
  refine TQ.retE (resL rfl (Res.tmp rfl (Res.tmp rfl (Res.tmp rfl Res.nil)))) (⟨o, rfl, by rw [ho]; rfl, rfl⟩) ?_
  exact ett

theorem H_cka_open (kd : UInt32) (hF : Formed l kd) (hkd : kd = 4) (ht : n32 l 0 = S.tag) (hs : S.state = 2) (L : List SA) : Fn Try.prog 12 [pt b 0, .slice a n cap, vI now] (aB b p S :: SA.rds 1 (.slice a n cap) n (l.map v8) :: L) (fun v L' => v = noOut 0 ∧ L' = aB b p ({ S.clocked now with state := 3, tset := false }) :: SA.rds 1 (.slice a n cap) n (l.map v8) :: L) := by
  have hlen := hF.len
  refine Fn.of (N := 160) Try.func12 rfl rfl ?_
  intro Xh
  refine TC.seq (TC.region ?_)
  refine TL.sg ?_
  refine TL.sg ?_
  refine TL.sg ?_
  refine TL.nil (TQ.next (TC.seq (TC.seq (TC.region ?_))))
  refine TL.mv ?_
  refine TL.val rfl rfl rfl (by first | exact Y.eqNilP rfl Try.underlying26 rfl rfl | exact Y.eqNil0 rfl Try.underlying26 rfl rfl) ?_
  refine TL.nil (TQ.next ?_)
  refine TC.cond_f rfl ?_
  refine TC.skip (TQ.next (TC.seq (TC.region ?_)))
  refine TL.mv ?_
  refine TL.mv ?_
  refine TL.nc ?_
  refine TL.val rfl rfl rfl (by first | exact Y.fieldAddrJ rfl fo68_11 rfl nqq | exact Y.fieldAddr rfl fo68_11 rfl nqq) ?_
  refine TL.val rfl rfl rfl (Y.load rfl sc2 rfl celN) ?_
  refine TL.as (vI S.clock) (by rfl) ?_
  refine TL.mv ?_
  refine TL.val rfl rfl rfl (Y.maxI rfl rfl rfl) ?_
  refine TL.as (vI (max S.clock now)) (by rfl) ?_
  refine TL.nc ?_
  refine TL.val rfl rfl rfl (by first | exact Y.fieldAddrJ rfl fo68_11 rfl nqq | exact Y.fieldAddr rfl fo68_11 rfl nqq) ?_
  refine TL.eff0 rfl rfl (X.store (cs' := asC p (S.clocked now)) rfl (by kernel_rfl) rfl rfl rfl pul (by show 11 < 17; decide) rfl) ?_
  rintro _ _ rfl
  refine TL.nil (TQ.next (TC.seq (TC.region ?_)))
  refine TL.mv ?_
  refine TL.eff rfl rfl rfl (X.cl rfl Try.func26 rfl (h := (rd.New_fn a n cap l hn hl _))) ?_
  rintro _ _ ⟨p28, rfl, rfl⟩
  refine TL.sg ?_
  refine TL.nil (TQ.next (TC.seq (TC.region ?_)))
  refine TL.mv ?_
  refine TL.eff rfl rfl rfl (X.cl rfl Try.func27 rfl (h := (u32_ok p28 l (by omega) _))) ?_
  rintro _ _ ⟨rfl, rfl⟩
  rw [show num (l.take 4) = n32 l 0 from rfl]
  refine TL.mv ?_
  refine TL.eff rfl rfl rfl (X.cl rfl Try.func27 rfl (h := (u32_ok p28 (l.drop 4) (by rw [List.length_drop]; omega) _))) ?_
  rintro _ _ ⟨rfl, rfl⟩
  rw [show num ((l.drop 4).take 4) = n32 l 4 from rfl, List.drop_drop]
  refine TL.sg ?_
  refine TL.sg ?_
  refine TL.nil (TQ.next (TC.seq (TC.region ?_)))
  refine TL.mv ?_
  refine TL.val rfl rfl rfl (Y.bin rfl rfl rfl (br_shr32 (n := 24))) ?_
  refine TL.as (v32 kd) (by (rw [← hF.kind])) ?_
  refine TL.sg ?_
  refine TL.nil (TQ.next (TC.seq (TC.seq (TC.region ?_))))
  refine TL.mv ?_
  refine TL.eff rfl rfl rfl (X.cl rfl Try.func28 rfl (h := (rd.Bad_fn _ _ _ _))) ?_
  rintro _ _ ⟨rfl, rfl⟩
  refine TL.mv ?_
  refine TL.mg ?_
  refine TL.valG rfl rfl rfl (Y.bin rfl rfl rfl (br_and32 (y := 16777215))) ?_
  refine TL.valG rfl rfl rfl (Y.bin rfl rfl rfl (br_ne32 (y := 0))) ?_
  refine TL.is false (by (simpa using hF.low)) ?_
  refine TL.val rfl rfl rfl (Y.pick_f rfl rfl rfl) ?_
  refine TL.mv ?_
  refine TL.mg ?_
  refine TL.valG rfl rfl rfl (Y.conv rfl Try.underlying22 Try.underlying5 rfl (cv_32_8)) ?_
  refine TL.mg ?_
  refine TL.effG rfl rfl rfl (X.cl rfl Try.func30 rfl (h := (rd.Left_fn _ _ _ _))) ?_
  rintro _ _ ⟨rfl, rfl⟩
  refine TL.as (vN (l.length - 8)) (by (rw [List.length_drop])) ?_
  refine TL.effG rfl rfl rfl (X.cl rfl Try.func29 rfl (h := (fits_fn kd.toUInt8 (l.length - 8) (by omega) _))) ?_
  rintro _ _ ⟨rfl, rfl⟩
  refine TL.valG rfl rfl rfl (Y.not rfl rfl) ?_
  refine TL.is false (by (rw [hF.fits]; rfl)) ?_
  refine TL.val rfl rfl rfl (Y.pick_f rfl rfl rfl) ?_
  refine TL.mv ?_
  refine TL.mg ?_
  refine TL.valG rfl rfl rfl (Y.bin rfl rfl rfl (br_eq32 (y := 0))) ?_
  refine TL.mg ?_
  refine TL.valG rfl rfl rfl (Y.bin rfl rfl rfl (br_eq32 (y := 1))) ?_
  refine TL.valG rfl rfl rfl (Y.neBool rfl Try.underlying4 rfl rfl) ?_
  refine TL.is false (by (have := hF.tagged; by_cases e1 : n32 l 0 = 0 <;> by_cases e2 : kd = 1 <;> simp_all <;> rw [beq_eq_false_iff_ne.2 e1, beq_eq_false_iff_ne.2 e2])) ?_
  refine TL.val rfl rfl rfl (Y.pick_f rfl rfl rfl) ?_
  refine TL.nil (TQ.next ?_)
  refine TC.cond_f rfl ?_
  refine TC.skip (TQ.next (TC.seq (TC.seq (TC.region ?_))))
  refine TL.mv ?_
  refine TL.val rfl rfl rfl (Y.bin rfl rfl rfl (br_leN (n := 2))) ?_
  refine TL.is false (by (subst hkd; decide)) ?_
  refine TL.mv ?_
  refine TL.not rfl rfl rfl ?_
  refine TL.not rfl rfl rfl ?_
  refine TL.not rfl rfl rfl ?_
  refine TL.not rfl rfl rfl ?_
  refine TL.not rfl rfl rfl ?_
  refine TL.val rfl rfl rfl (Y.pick_f rfl rfl rfl) ?_
  refine TL.nil (TQ.next ?_)
  refine TC.cond_f rfl ?_
  refine TC.skip (TQ.next (TC.seq (TC.block (TC.seq (TC.region ?_)))))
  refine TL.mv ?_
  refine TL.val rfl rfl rfl (Y.bin rfl rfl rfl (br_eq32 (y := 1))) ?_
  refine TL.is false (by (subst hkd; decide)) ?_
  refine TL.sg ?_
  refine TL.nil (TQ.next ?_)
  refine TC.cond_f rfl ?_
  refine TC.seq (TC.region ?_)
  refine TL.mv ?_
  refine TL.mv ?_
  refine TL.nc ?_
  refine TL.val rfl rfl rfl (by first | exact Y.fieldAddrJ rfl fo68_0 rfl nqq | exact Y.fieldAddr rfl fo68_0 rfl nqq) ?_
  refine TL.val rfl rfl rfl (Y.load rfl sc22 rfl cel32) ?_
  refine TL.as (v32 S.tag) (by rfl) ?_
  refine TL.val rfl rfl rfl (Y.bin rfl rfl rfl (br_ne32)) ?_
  refine TL.is false (by (simpa using ht)) ?_
  refine TL.sg ?_
  refine TL.nil (TQ.next ?_)
  refine TC.cond_f rfl ?_
  refine TC.seq (TC.region ?_)
  refine TL.mv ?_
  refine TL.val rfl rfl rfl (Y.bin rfl rfl rfl (br_eq32 (y := 2))) ?_
  refine TL.is false (by (subst hkd; decide)) ?_
  refine TL.sg ?_
  refine TL.nil (TQ.next ?_)
  refine TC.cond_f rfl ?_
  refine TC.seq (TC.region ?_)
  refine TL.mv ?_
  refine TL.val rfl rfl rfl (Y.bin rfl rfl rfl (br_eq32 (y := 3))) ?_
  refine TL.is false (by (subst hkd; decide)) ?_
  refine TL.sg ?_
  refine TL.nil (TQ.next ?_)
  refine TC.cond_f rfl ?_
  refine TC.seq (TC.region ?_)
  refine TL.mv ?_
  refine TL.val rfl rfl rfl (Y.bin rfl rfl rfl (br_eq32 (y := 4))) ?_
  refine TL.is true (by (subst hkd; decide)) ?_
  refine TL.sg ?_
  refine TL.nil (TQ.next ?_)
  refine TC.cond_t rfl ?_
  refine TC.seq (TC.seq (TC.region ?_))
  refine TL.mv ?_
  refine TL.nc ?_
  refine TL.val rfl rfl rfl (by first | exact Y.fieldAddrJ rfl fo68_3 rfl nqq | exact Y.fieldAddr rfl fo68_3 rfl nqq) ?_
  refine TL.val rfl rfl rfl (Y.load rfl sc3 rfl celN) ?_
  refine TL.as (vN S.state) (by rfl) ?_
  refine TL.nil (TQ.next (TC.block (TC.seq (TC.region ?_))))
  refine TL.val rfl rfl rfl (Y.bin rfl rfl rfl (br_eqN (n := 2))) ?_
  refine TL.is true (by (simpa using hs)) ?_
  refine TL.sg ?_
  refine TL.nil (TQ.next ?_)
  refine TC.cond_t rfl ?_
  refine TC.region ?_
  refine TL.mv ?_
  refine TL.mv ?_
  refine TL.nc ?_
  refine TL.val rfl rfl rfl (by first | exact Y.fieldAddrJ rfl fo68_3 rfl nqq | exact Y.fieldAddr rfl fo68_3 rfl nqq) ?_
  refine TL.eff0 rfl rfl (X.store (cs' := asC p { S.clocked now with state := 3 }) rfl (by kernel_rfl) rfl rfl rfl pul (by show 3 < 17; decide) rfl) ?_
  rintro _ _ rfl
  refine TL.nc ?_
  refine TL.val rfl rfl rfl (by first | exact Y.fieldAddrJ rfl fo68_12 rfl nqq | exact Y.fieldAddr rfl fo68_12 rfl nqq) ?_
  refine TL.val rfl rfl rfl (by first | exact Y.fieldAddrJ rfl fo66_0 rfl nqq | exact Y.fieldAddr rfl fo66_0 rfl nqq) ?_
  refine TL.eff0 rfl rfl (X.store (cs' := asC p { S.clocked now with state := 3, tset := false }) rfl (by kernel_rfl) rfl rfl rfl pul (by show 12 < 17; decide) rfl) ?_
  rintro _ _ rfl
  refine TL.nil (TQ.block_normal (TQ.next (TC.seq (TC.region ?_))))
  refine TL.sg ?_
  refine TL.sg ?_
  refine TL.sg ?_
  refine TL.nil (TQ.next (TC.ret (TQ.block_ret (TQ.then_ret ?_))))
  refine TQ.retE (resL rfl (Res.tmp rfl (Res.tmp rfl (Res.tmp rfl Res.nil)))) (⟨rfl, rfl⟩) ?_
  exact ett

theorem H_cka_same (kd : UInt32) (hF : Formed l kd) (hkd : kd = 4) (ht : n32 l 0 = S.tag) (hs : S.state = 3) (L : List SA) : Fn Try.prog 12 [pt b 0, .slice a n cap, vI now] (aB b p S :: SA.rds 1 (.slice a n cap) n (l.map v8) :: L) (fun v L' => v = noOut 0 ∧ L' = aB b p (S.clocked now) :: SA.rds 1 (.slice a n cap) n (l.map v8) :: L) := by
  have hlen := hF.len
  refine Fn.of (N := 160) Try.func12 rfl rfl ?_
  intro Xh
  refine TC.seq (TC.region ?_)
  refine TL.sg ?_
  refine TL.sg ?_
  refine TL.sg ?_
  refine TL.nil (TQ.next (TC.seq (TC.seq (TC.region ?_))))
  refine TL.mv ?_
  refine TL.val rfl rfl rfl (by first | exact Y.eqNilP rfl Try.underlying26 rfl rfl | exact Y.eqNil0 rfl Try.underlying26 rfl rfl) ?_
  refine TL.nil (TQ.next ?_)
  refine TC.cond_f rfl ?_
  refine TC.skip (TQ.next (TC.seq (TC.region ?_)))
  refine TL.mv ?_
  refine TL.mv ?_
  refine TL.nc ?_
  refine TL.val rfl rfl rfl (by first | exact Y.fieldAddrJ rfl fo68_11 rfl nqq | exact Y.fieldAddr rfl fo68_11 rfl nqq) ?_
  refine TL.val rfl rfl rfl (Y.load rfl sc2 rfl celN) ?_
  refine TL.as (vI S.clock) (by rfl) ?_
  refine TL.mv ?_
  refine TL.val rfl rfl rfl (Y.maxI rfl rfl rfl) ?_
  refine TL.as (vI (max S.clock now)) (by rfl) ?_
  refine TL.nc ?_
  refine TL.val rfl rfl rfl (by first | exact Y.fieldAddrJ rfl fo68_11 rfl nqq | exact Y.fieldAddr rfl fo68_11 rfl nqq) ?_
  refine TL.eff0 rfl rfl (X.store (cs' := asC p (S.clocked now)) rfl (by kernel_rfl) rfl rfl rfl pul (by show 11 < 17; decide) rfl) ?_
  rintro _ _ rfl
  refine TL.nil (TQ.next (TC.seq (TC.region ?_)))
  refine TL.mv ?_
  refine TL.eff rfl rfl rfl (X.cl rfl Try.func26 rfl (h := (rd.New_fn a n cap l hn hl _))) ?_
  rintro _ _ ⟨p28, rfl, rfl⟩
  refine TL.sg ?_
  refine TL.nil (TQ.next (TC.seq (TC.region ?_)))
  refine TL.mv ?_
  refine TL.eff rfl rfl rfl (X.cl rfl Try.func27 rfl (h := (u32_ok p28 l (by omega) _))) ?_
  rintro _ _ ⟨rfl, rfl⟩
  rw [show num (l.take 4) = n32 l 0 from rfl]
  refine TL.mv ?_
  refine TL.eff rfl rfl rfl (X.cl rfl Try.func27 rfl (h := (u32_ok p28 (l.drop 4) (by rw [List.length_drop]; omega) _))) ?_
  rintro _ _ ⟨rfl, rfl⟩
  rw [show num ((l.drop 4).take 4) = n32 l 4 from rfl, List.drop_drop]
  refine TL.sg ?_
  refine TL.sg ?_
  refine TL.nil (TQ.next (TC.seq (TC.region ?_)))
  refine TL.mv ?_
  refine TL.val rfl rfl rfl (Y.bin rfl rfl rfl (br_shr32 (n := 24))) ?_
  refine TL.as (v32 kd) (by (rw [← hF.kind])) ?_
  refine TL.sg ?_
  refine TL.nil (TQ.next (TC.seq (TC.seq (TC.region ?_))))
  refine TL.mv ?_
  refine TL.eff rfl rfl rfl (X.cl rfl Try.func28 rfl (h := (rd.Bad_fn _ _ _ _))) ?_
  rintro _ _ ⟨rfl, rfl⟩
  refine TL.mv ?_
  refine TL.mg ?_
  refine TL.valG rfl rfl rfl (Y.bin rfl rfl rfl (br_and32 (y := 16777215))) ?_
  refine TL.valG rfl rfl rfl (Y.bin rfl rfl rfl (br_ne32 (y := 0))) ?_
  refine TL.is false (by (simpa using hF.low)) ?_
  refine TL.val rfl rfl rfl (Y.pick_f rfl rfl rfl) ?_
  refine TL.mv ?_
  refine TL.mg ?_
  refine TL.valG rfl rfl rfl (Y.conv rfl Try.underlying22 Try.underlying5 rfl (cv_32_8)) ?_
  refine TL.mg ?_
  refine TL.effG rfl rfl rfl (X.cl rfl Try.func30 rfl (h := (rd.Left_fn _ _ _ _))) ?_
  rintro _ _ ⟨rfl, rfl⟩
  refine TL.as (vN (l.length - 8)) (by (rw [List.length_drop])) ?_
  refine TL.effG rfl rfl rfl (X.cl rfl Try.func29 rfl (h := (fits_fn kd.toUInt8 (l.length - 8) (by omega) _))) ?_
  rintro _ _ ⟨rfl, rfl⟩
  refine TL.valG rfl rfl rfl (Y.not rfl rfl) ?_
  refine TL.is false (by (rw [hF.fits]; rfl)) ?_
  refine TL.val rfl rfl rfl (Y.pick_f rfl rfl rfl) ?_
  refine TL.mv ?_
  refine TL.mg ?_
  refine TL.valG rfl rfl rfl (Y.bin rfl rfl rfl (br_eq32 (y := 0))) ?_
  refine TL.mg ?_
  refine TL.valG rfl rfl rfl (Y.bin rfl rfl rfl (br_eq32 (y := 1))) ?_
  refine TL.valG rfl rfl rfl (Y.neBool rfl Try.underlying4 rfl rfl) ?_
  refine TL.is false (by (have := hF.tagged; by_cases e1 : n32 l 0 = 0 <;> by_cases e2 : kd = 1 <;> simp_all <;> rw [beq_eq_false_iff_ne.2 e1, beq_eq_false_iff_ne.2 e2])) ?_
  refine TL.val rfl rfl rfl (Y.pick_f rfl rfl rfl) ?_
  refine TL.nil (TQ.next ?_)
  refine TC.cond_f rfl ?_
  refine TC.skip (TQ.next (TC.seq (TC.seq (TC.region ?_))))
  refine TL.mv ?_
  refine TL.val rfl rfl rfl (Y.bin rfl rfl rfl (br_leN (n := 2))) ?_
  refine TL.is false (by (subst hkd; decide)) ?_
  refine TL.mv ?_
  refine TL.not rfl rfl rfl ?_
  refine TL.not rfl rfl rfl ?_
  refine TL.not rfl rfl rfl ?_
  refine TL.not rfl rfl rfl ?_
  refine TL.not rfl rfl rfl ?_
  refine TL.val rfl rfl rfl (Y.pick_f rfl rfl rfl) ?_
  refine TL.nil (TQ.next ?_)
  refine TC.cond_f rfl ?_
  refine TC.skip (TQ.next (TC.seq (TC.block (TC.seq (TC.region ?_)))))
  refine TL.mv ?_
  refine TL.val rfl rfl rfl (Y.bin rfl rfl rfl (br_eq32 (y := 1))) ?_
  refine TL.is false (by (subst hkd; decide)) ?_
  refine TL.sg ?_
  refine TL.nil (TQ.next ?_)
  refine TC.cond_f rfl ?_
  refine TC.seq (TC.region ?_)
  refine TL.mv ?_
  refine TL.mv ?_
  refine TL.nc ?_
  refine TL.val rfl rfl rfl (by first | exact Y.fieldAddrJ rfl fo68_0 rfl nqq | exact Y.fieldAddr rfl fo68_0 rfl nqq) ?_
  refine TL.val rfl rfl rfl (Y.load rfl sc22 rfl cel32) ?_
  refine TL.as (v32 S.tag) (by rfl) ?_
  refine TL.val rfl rfl rfl (Y.bin rfl rfl rfl (br_ne32)) ?_
  refine TL.is false (by (simpa using ht)) ?_
  refine TL.sg ?_
  refine TL.nil (TQ.next ?_)
  refine TC.cond_f rfl ?_
  refine TC.seq (TC.region ?_)
  refine TL.mv ?_
  refine TL.val rfl rfl rfl (Y.bin rfl rfl rfl (br_eq32 (y := 2))) ?_
  refine TL.is false (by (subst hkd; decide)) ?_
  refine TL.sg ?_
  refine TL.nil (TQ.next ?_)
  refine TC.cond_f rfl ?_
  refine TC.seq (TC.region ?_)
  refine TL.mv ?_
  refine TL.val rfl rfl rfl (Y.bin rfl rfl rfl (br_eq32 (y := 3))) ?_
  refine TL.is false (by (subst hkd; decide)) ?_
  refine TL.sg ?_
  refine TL.nil (TQ.next ?_)
  refine TC.cond_f rfl ?_
  refine TC.seq (TC.region ?_)
  refine TL.mv ?_
  refine TL.val rfl rfl rfl (Y.bin rfl rfl rfl (br_eq32 (y := 4))) ?_
  refine TL.is true (by (subst hkd; decide)) ?_
  refine TL.sg ?_
  refine TL.nil (TQ.next ?_)
  refine TC.cond_t rfl ?_
  refine TC.seq (TC.seq (TC.region ?_))
  refine TL.mv ?_
  refine TL.nc ?_
  refine TL.val rfl rfl rfl (by first | exact Y.fieldAddrJ rfl fo68_3 rfl nqq | exact Y.fieldAddr rfl fo68_3 rfl nqq) ?_
  refine TL.val rfl rfl rfl (Y.load rfl sc3 rfl celN) ?_
  refine TL.as (vN S.state) (by rfl) ?_
  refine TL.nil (TQ.next (TC.block (TC.seq (TC.region ?_))))
  refine TL.val rfl rfl rfl (Y.bin rfl rfl rfl (br_eqN (n := 2))) ?_
  refine TL.is false (by (simp; omega)) ?_
  refine TL.sg ?_
  refine TL.nil (TQ.next ?_)
  refine TC.cond_f rfl ?_
  refine TC.seq (TC.region ?_)
  refine TL.val rfl rfl rfl (Y.bin rfl rfl rfl (br_eqN (n := 3))) ?_
  refine TL.is true (by (simpa using hs)) ?_
  refine TL.sg ?_
  refine TL.nil (TQ.next ?_)
  refine TC.cond_t rfl ?_
  refine TC.skip (TQ.block_normal (TQ.next (TC.seq (TC.region ?_))))
  refine TL.sg ?_
  refine TL.sg ?_
  refine TL.sg ?_
  refine TL.nil (TQ.next (TC.ret (TQ.block_ret (TQ.then_ret ?_))))
  refine TQ.retE (resL rfl (Res.tmp rfl (Res.tmp rfl (Res.tmp rfl Res.nil)))) (⟨rfl, rfl⟩) ?_
  exact ett

theorem H_cka_no (kd : UInt32) (hF : Formed l kd) (hkd : kd = 4) (ht : n32 l 0 = S.tag) (hs2 : S.state ≠ 2) (hs3 : S.state ≠ 3) (L : List SA) : Fn Try.prog 12 [pt b 0, .slice a n cap, vI now] (aB b p S :: SA.rds 1 (.slice a n cap) n (l.map v8) :: L) (fun v L' => v = noOut 9 ∧ L' = aB b p (S.clocked now) :: SA.rds 1 (.slice a n cap) n (l.map v8) :: L) := by
  have hlen := hF.len
  refine Fn.of (N := 160) Try.func12 rfl rfl ?_
  intro Xh
  refine TC.seq (TC.region ?_)
  refine TL.sg ?_
  refine TL.sg ?_
  refine TL.sg ?_
  refine TL.nil (TQ.next (TC.seq (TC.seq (TC.region ?_))))
  refine TL.mv ?_
  refine TL.val rfl rfl rfl (by first | exact Y.eqNilP rfl Try.underlying26 rfl rfl | exact Y.eqNil0 rfl Try.underlying26 rfl rfl) ?_
  refine TL.nil (TQ.next ?_)
  refine TC.cond_f rfl ?_
  refine TC.skip (TQ.next (TC.seq (TC.region ?_)))
  refine TL.mv ?_
  refine TL.mv ?_
  refine TL.nc ?_
  refine TL.val rfl rfl rfl (by first | exact Y.fieldAddrJ rfl fo68_11 rfl nqq | exact Y.fieldAddr rfl fo68_11 rfl nqq) ?_
  refine TL.val rfl rfl rfl (Y.load rfl sc2 rfl celN) ?_
  refine TL.as (vI S.clock) (by rfl) ?_
  refine TL.mv ?_
  refine TL.val rfl rfl rfl (Y.maxI rfl rfl rfl) ?_
  refine TL.as (vI (max S.clock now)) (by rfl) ?_
  refine TL.nc ?_
  refine TL.val rfl rfl rfl (by first | exact Y.fieldAddrJ rfl fo68_11 rfl nqq | exact Y.fieldAddr rfl fo68_11 rfl nqq) ?_
  refine TL.eff0 rfl rfl (X.store (cs' := asC p (S.clocked now)) rfl (by kernel_rfl) rfl rfl rfl pul (by show 11 < 17; decide) rfl) ?_
  rintro _ _ rfl
  refine TL.nil (TQ.next (TC.seq (TC.region ?_)))
  refine TL.mv ?_
  refine TL.eff rfl rfl rfl (X.cl rfl Try.func26 rfl (h := (rd.New_fn a n cap l hn hl _))) ?_
  rintro _ _ ⟨p28, rfl, rfl⟩
  refine TL.sg ?_
  refine TL.nil (TQ.next (TC.seq (TC.region ?_)))
  refine TL.mv ?_
  refine TL.eff rfl rfl rfl (X.cl rfl Try.func27 rfl (h := (u32_ok p28 l (by omega) _))) ?_
  rintro _ _ ⟨rfl, rfl⟩
  rw [show num (l.take 4) = n32 l 0 from rfl]
  refine TL.mv ?_
  refine TL.eff rfl rfl rfl (X.cl rfl Try.func27 rfl (h := (u32_ok p28 (l.drop 4) (by rw [List.length_drop]; omega) _))) ?_
  rintro _ _ ⟨rfl, rfl⟩
  rw [show num ((l.drop 4).take 4) = n32 l 4 from rfl, List.drop_drop]
  refine TL.sg ?_
  refine TL.sg ?_
  refine TL.nil (TQ.next (TC.seq (TC.region ?_)))
  refine TL.mv ?_
  refine TL.val rfl rfl rfl (Y.bin rfl rfl rfl (br_shr32 (n := 24))) ?_
  refine TL.as (v32 kd) (by (rw [← hF.kind])) ?_
  refine TL.sg ?_
  refine TL.nil (TQ.next (TC.seq (TC.seq (TC.region ?_))))
  refine TL.mv ?_
  refine TL.eff rfl rfl rfl (X.cl rfl Try.func28 rfl (h := (rd.Bad_fn _ _ _ _))) ?_
  rintro _ _ ⟨rfl, rfl⟩
  refine TL.mv ?_
  refine TL.mg ?_
  refine TL.valG rfl rfl rfl (Y.bin rfl rfl rfl (br_and32 (y := 16777215))) ?_
  refine TL.valG rfl rfl rfl (Y.bin rfl rfl rfl (br_ne32 (y := 0))) ?_
  refine TL.is false (by (simpa using hF.low)) ?_
  refine TL.val rfl rfl rfl (Y.pick_f rfl rfl rfl) ?_
  refine TL.mv ?_
  refine TL.mg ?_
  refine TL.valG rfl rfl rfl (Y.conv rfl Try.underlying22 Try.underlying5 rfl (cv_32_8)) ?_
  refine TL.mg ?_
  refine TL.effG rfl rfl rfl (X.cl rfl Try.func30 rfl (h := (rd.Left_fn _ _ _ _))) ?_
  rintro _ _ ⟨rfl, rfl⟩
  refine TL.as (vN (l.length - 8)) (by (rw [List.length_drop])) ?_
  refine TL.effG rfl rfl rfl (X.cl rfl Try.func29 rfl (h := (fits_fn kd.toUInt8 (l.length - 8) (by omega) _))) ?_
  rintro _ _ ⟨rfl, rfl⟩
  refine TL.valG rfl rfl rfl (Y.not rfl rfl) ?_
  refine TL.is false (by (rw [hF.fits]; rfl)) ?_
  refine TL.val rfl rfl rfl (Y.pick_f rfl rfl rfl) ?_
  refine TL.mv ?_
  refine TL.mg ?_
  refine TL.valG rfl rfl rfl (Y.bin rfl rfl rfl (br_eq32 (y := 0))) ?_
  refine TL.mg ?_
  refine TL.valG rfl rfl rfl (Y.bin rfl rfl rfl (br_eq32 (y := 1))) ?_
  refine TL.valG rfl rfl rfl (Y.neBool rfl Try.underlying4 rfl rfl) ?_
  refine TL.is false (by (have := hF.tagged; by_cases e1 : n32 l 0 = 0 <;> by_cases e2 : kd = 1 <;> simp_all <;> rw [beq_eq_false_iff_ne.2 e1, beq_eq_false_iff_ne.2 e2])) ?_
  refine TL.val rfl rfl rfl (Y.pick_f rfl rfl rfl) ?_
  refine TL.nil (TQ.next ?_)
  refine TC.cond_f rfl ?_
  refine TC.skip (TQ.next (TC.seq (TC.seq (TC.region ?_))))
  refine TL.mv ?_
  refine TL.val rfl rfl rfl (Y.bin rfl rfl rfl (br_leN (n := 2))) ?_
  refine TL.is false (by (subst hkd; decide)) ?_
  refine TL.mv ?_
  refine TL.not rfl rfl rfl ?_
  refine TL.not rfl rfl rfl ?_
  refine TL.not rfl rfl rfl ?_
  refine TL.not rfl rfl rfl ?_
  refine TL.not rfl rfl rfl ?_
  refine TL.val rfl rfl rfl (Y.pick_f rfl rfl rfl) ?_
  refine TL.nil (TQ.next ?_)
  refine TC.cond_f rfl ?_
  refine TC.skip (TQ.next (TC.seq (TC.block (TC.seq (TC.region ?_)))))
  refine TL.mv ?_
  refine TL.val rfl rfl rfl (Y.bin rfl rfl rfl (br_eq32 (y := 1))) ?_
  refine TL.is false (by (subst hkd; decide)) ?_
  refine TL.sg ?_
  refine TL.nil (TQ.next ?_)
  refine TC.cond_f rfl ?_
  refine TC.seq (TC.region ?_)
  refine TL.mv ?_
  refine TL.mv ?_
  refine TL.nc ?_
  refine TL.val rfl rfl rfl (by first | exact Y.fieldAddrJ rfl fo68_0 rfl nqq | exact Y.fieldAddr rfl fo68_0 rfl nqq) ?_
  refine TL.val rfl rfl rfl (Y.load rfl sc22 rfl cel32) ?_
  refine TL.as (v32 S.tag) (by rfl) ?_
  refine TL.val rfl rfl rfl (Y.bin rfl rfl rfl (br_ne32)) ?_
  refine TL.is false (by (simpa using ht)) ?_
  refine TL.sg ?_
  refine TL.nil (TQ.next ?_)
  refine TC.cond_f rfl ?_
  refine TC.seq (TC.region ?_)
  refine TL.mv ?_
  refine TL.val rfl rfl rfl (Y.bin rfl rfl rfl (br_eq32 (y := 2))) ?_
  refine TL.is false (by (subst hkd; decide)) ?_
  refine TL.sg ?_
  refine TL.nil (TQ.next ?_)
  refine TC.cond_f rfl ?_
  refine TC.seq (TC.region ?_)
  refine TL.mv ?_
  refine TL.val rfl rfl rfl (Y.bin rfl rfl rfl (br_eq32 (y := 3))) ?_
  refine TL.is false (by (subst hkd; decide)) ?_
  refine TL.sg ?_
  refine TL.nil (TQ.next ?_)
  refine TC.cond_f rfl ?_
  refine TC.seq (TC.region ?_)
  refine TL.mv ?_
  refine TL.val rfl rfl rfl (Y.bin rfl rfl rfl (br_eq32 (y := 4))) ?_
  refine TL.is true (by (subst hkd; decide)) ?_
  refine TL.sg ?_
  refine TL.nil (TQ.next ?_)
  refine TC.cond_t rfl ?_
  refine TC.seq (TC.seq (TC.region ?_))
  refine TL.mv ?_
  refine TL.nc ?_
  refine TL.val rfl rfl rfl (by first | exact Y.fieldAddrJ rfl fo68_3 rfl nqq | exact Y.fieldAddr rfl fo68_3 rfl nqq) ?_
  refine TL.val rfl rfl rfl (Y.load rfl sc3 rfl celN) ?_
  refine TL.as (vN S.state) (by rfl) ?_
  refine TL.nil (TQ.next (TC.block (TC.seq (TC.region ?_))))
  refine TL.val rfl rfl rfl (Y.bin rfl rfl rfl (br_eqN (n := 2))) ?_
  refine TL.is false (by (simpa using hs2)) ?_
  refine TL.sg ?_
  refine TL.nil (TQ.next ?_)
  refine TC.cond_f rfl ?_
  refine TC.seq (TC.region ?_)
  refine TL.val rfl rfl rfl (Y.bin rfl rfl rfl (br_eqN (n := 3))) ?_
  refine TL.is false (by (simpa using hs3)) ?_
  refine TL.sg ?_
  refine TL.nil (TQ.next ?_)
  refine TC.cond_f rfl ?_
  refine TC.seq (TC.region ?_)
  refine TL.sg ?_
  refine TL.sg ?_
  refine TL.sg ?_
  refine TL.nil (TQ.next (TC.ret (TQ.block_ret (TQ.then_ret (TQ.block_ret (TQ.then_ret ?_))))))
  refine TQ.retE (resL rfl (Res.tmp rfl (Res.tmp rfl (Res.tmp rfl Res.nil)))) (⟨rfl, rfl⟩) ?_
  exact ett

theorem H_abort (kd : UInt32) (hF : Formed l kd) (hkd : kd = 7) (ht : n32 l 0 = S.tag) (L : List SA) : Fn Try.prog 12 [pt b 0, .slice a n cap, vI now] (aB b p S :: SA.rds 1 (.slice a n cap) n (l.map v8) :: L) (fun v L' => v = noOut 0 ∧ L' = aB b p ({ S.clocked now with state := 4, tset := false }) :: SA.rds 1 (.slice a n cap) n (l.map v8) :: L) := by
  have hlen := hF.len
  refine Fn.of (N := 160) Try.func12 rfl rfl ?_
  intro Xh
  refine TC.seq (TC.region ?_)
  refine TL.sg ?_
  refine TL.sg ?_
  refine TL.sg ?_
  refine TL.nil (TQ.next (TC.seq (TC.seq (TC.region ?_))))
  refine TL.mv ?_
  refine TL.val rfl rfl rfl (by first | exact Y.eqNilP rfl Try.underlying26 rfl rfl | exact Y.eqNil0 rfl Try.underlying26 rfl rfl) ?_
  refine TL.nil (TQ.next ?_)
  refine TC.cond_f rfl ?_
  refine TC.skip (TQ.next (TC.seq (TC.region ?_)))
  refine TL.mv ?_
  refine TL.mv ?_
  refine TL.nc ?_
  refine TL.val rfl rfl rfl (by first | exact Y.fieldAddrJ rfl fo68_11 rfl nqq | exact Y.fieldAddr rfl fo68_11 rfl nqq) ?_
  refine TL.val rfl rfl rfl (Y.load rfl sc2 rfl celN) ?_
  refine TL.as (vI S.clock) (by rfl) ?_
  refine TL.mv ?_
  refine TL.val rfl rfl rfl (Y.maxI rfl rfl rfl) ?_
  refine TL.as (vI (max S.clock now)) (by rfl) ?_
  refine TL.nc ?_
  refine TL.val rfl rfl rfl (by first | exact Y.fieldAddrJ rfl fo68_11 rfl nqq | exact Y.fieldAddr rfl fo68_11 rfl nqq) ?_
  refine TL.eff0 rfl rfl (X.store (cs' := asC p (S.clocked now)) rfl (by kernel_rfl) rfl rfl rfl pul (by show 11 < 17; decide) rfl) ?_
  rintro _ _ rfl
  refine TL.nil (TQ.next (TC.seq (TC.region ?_)))
  refine TL.mv ?_
  refine TL.eff rfl rfl rfl (X.cl rfl Try.func26 rfl (h := (rd.New_fn a n cap l hn hl _))) ?_
  rintro _ _ ⟨p28, rfl, rfl⟩
  refine TL.sg ?_
  refine TL.nil (TQ.next (TC.seq (TC.region ?_)))
  refine TL.mv ?_
  refine TL.eff rfl rfl rfl (X.cl rfl Try.func27 rfl (h := (u32_ok p28 l (by omega) _))) ?_
  rintro _ _ ⟨rfl, rfl⟩
  rw [show num (l.take 4) = n32 l 0 from rfl]
  refine TL.mv ?_
  refine TL.eff rfl rfl rfl (X.cl rfl Try.func27 rfl (h := (u32_ok p28 (l.drop 4) (by rw [List.length_drop]; omega) _))) ?_
  rintro _ _ ⟨rfl, rfl⟩
  rw [show num ((l.drop 4).take 4) = n32 l 4 from rfl, List.drop_drop]
  refine TL.sg ?_
  refine TL.sg ?_
  refine TL.nil (TQ.next (TC.seq (TC.region ?_)))
  refine TL.mv ?_
  refine TL.val rfl rfl rfl (Y.bin rfl rfl rfl (br_shr32 (n := 24))) ?_
  refine TL.as (v32 kd) (by (rw [← hF.kind])) ?_
  refine TL.sg ?_
  refine TL.nil (TQ.next (TC.seq (TC.seq (TC.region ?_))))
  refine TL.mv ?_
  refine TL.eff rfl rfl rfl (X.cl rfl Try.func28 rfl (h := (rd.Bad_fn _ _ _ _))) ?_
  rintro _ _ ⟨rfl, rfl⟩
  refine TL.mv ?_
  refine TL.mg ?_
  refine TL.valG rfl rfl rfl (Y.bin rfl rfl rfl (br_and32 (y := 16777215))) ?_
  refine TL.valG rfl rfl rfl (Y.bin rfl rfl rfl (br_ne32 (y := 0))) ?_
  refine TL.is false (by (simpa using hF.low)) ?_
  refine TL.val rfl rfl rfl (Y.pick_f rfl rfl rfl) ?_
  refine TL.mv ?_
  refine TL.mg ?_
  refine TL.valG rfl rfl rfl (Y.conv rfl Try.underlying22 Try.underlying5 rfl (cv_32_8)) ?_
  refine TL.mg ?_
  refine TL.effG rfl rfl rfl (X.cl rfl Try.func30 rfl (h := (rd.Left_fn _ _ _ _))) ?_
  rintro _ _ ⟨rfl, rfl⟩
  refine TL.as (vN (l.length - 8)) (by (rw [List.length_drop])) ?_
  refine TL.effG rfl rfl rfl (X.cl rfl Try.func29 rfl (h := (fits_fn kd.toUInt8 (l.length - 8) (by omega) _))) ?_
  rintro _ _ ⟨rfl, rfl⟩
  refine TL.valG rfl rfl rfl (Y.not rfl rfl) ?_
  refine TL.is false (by (rw [hF.fits]; rfl)) ?_
  refine TL.val rfl rfl rfl (Y.pick_f rfl rfl rfl) ?_
  refine TL.mv ?_
  refine TL.mg ?_
  refine TL.valG rfl rfl rfl (Y.bin rfl rfl rfl (br_eq32 (y := 0))) ?_
  refine TL.mg ?_
  refine TL.valG rfl rfl rfl (Y.bin rfl rfl rfl (br_eq32 (y := 1))) ?_
  refine TL.valG rfl rfl rfl (Y.neBool rfl Try.underlying4 rfl rfl) ?_
  refine TL.is false (by (have := hF.tagged; by_cases e1 : n32 l 0 = 0 <;> by_cases e2 : kd = 1 <;> simp_all <;> rw [beq_eq_false_iff_ne.2 e1, beq_eq_false_iff_ne.2 e2])) ?_
  refine TL.val rfl rfl rfl (Y.pick_f rfl rfl rfl) ?_
  refine TL.nil (TQ.next ?_)
  refine TC.cond_f rfl ?_
  refine TC.skip (TQ.next (TC.seq (TC.seq (TC.region ?_))))
  refine TL.mv ?_
  refine TL.val rfl rfl rfl (Y.bin rfl rfl rfl (br_leN (n := 2))) ?_
  refine TL.is false (by (subst hkd; decide)) ?_
  refine TL.mv ?_
  refine TL.not rfl rfl rfl ?_
  refine TL.not rfl rfl rfl ?_
  refine TL.not rfl rfl rfl ?_
  refine TL.not rfl rfl rfl ?_
  refine TL.not rfl rfl rfl ?_
  refine TL.val rfl rfl rfl (Y.pick_f rfl rfl rfl) ?_
  refine TL.nil (TQ.next ?_)
  refine TC.cond_f rfl ?_
  refine TC.skip (TQ.next (TC.seq (TC.block (TC.seq (TC.region ?_)))))
  refine TL.mv ?_
  refine TL.val rfl rfl rfl (Y.bin rfl rfl rfl (br_eq32 (y := 1))) ?_
  refine TL.is false (by (subst hkd; decide)) ?_
  refine TL.sg ?_
  refine TL.nil (TQ.next ?_)
  refine TC.cond_f rfl ?_
  refine TC.seq (TC.region ?_)
  refine TL.mv ?_
  refine TL.mv ?_
  refine TL.nc ?_
  refine TL.val rfl rfl rfl (by first | exact Y.fieldAddrJ rfl fo68_0 rfl nqq | exact Y.fieldAddr rfl fo68_0 rfl nqq) ?_
  refine TL.val rfl rfl rfl (Y.load rfl sc22 rfl cel32) ?_
  refine TL.as (v32 S.tag) (by rfl) ?_
  refine TL.val rfl rfl rfl (Y.bin rfl rfl rfl (br_ne32)) ?_
  refine TL.is false (by (simpa using ht)) ?_
  refine TL.sg ?_
  refine TL.nil (TQ.next ?_)
  refine TC.cond_f rfl ?_
  refine TC.seq (TC.region ?_)
  refine TL.mv ?_
  refine TL.val rfl rfl rfl (Y.bin rfl rfl rfl (br_eq32 (y := 2))) ?_
  refine TL.is false (by (subst hkd; decide)) ?_
  refine TL.sg ?_
  refine TL.nil (TQ.next ?_)
  refine TC.cond_f rfl ?_
  refine TC.seq (TC.region ?_)
  refine TL.mv ?_
  refine TL.val rfl rfl rfl (Y.bin rfl rfl rfl (br_eq32 (y := 3))) ?_
  refine TL.is false (by (subst hkd; decide)) ?_
  refine TL.sg ?_
  refine TL.nil (TQ.next ?_)
  refine TC.cond_f rfl ?_
  refine TC.seq (TC.region ?_)
  refine TL.mv ?_
  refine TL.val rfl rfl rfl (Y.bin rfl rfl rfl (br_eq32 (y := 4))) ?_
  refine TL.is false (by (subst hkd; decide)) ?_
  refine TL.sg ?_
  refine TL.nil (TQ.next ?_)
  refine TC.cond_f rfl ?_
  refine TC.seq (TC.region ?_)
  refine TL.mv ?_
  refine TL.val rfl rfl rfl (Y.bin rfl rfl rfl (br_eq32 (y := 7))) ?_
  refine TL.is true (by (subst hkd; decide)) ?_
  refine TL.sg ?_
  refine TL.nil (TQ.next ?_)
  refine TC.cond_t rfl ?_
  refine TC.seq (TC.region ?_)
  refine TL.mv ?_
  refine TL.mv ?_
  refine TL.nc ?_
  refine TL.val rfl rfl rfl (by first | exact Y.fieldAddrJ rfl fo68_3 rfl nqq | exact Y.fieldAddr rfl fo68_3 rfl nqq) ?_
  refine TL.eff0 rfl rfl (X.store (cs' := asC p { S.clocked now with state := 4 }) rfl (by kernel_rfl) rfl rfl rfl pul (by show 3 < 17; decide) rfl) ?_
  rintro _ _ rfl
  refine TL.nc ?_
  refine TL.val rfl rfl rfl (by first | exact Y.fieldAddrJ rfl fo68_12 rfl nqq | exact Y.fieldAddr rfl fo68_12 rfl nqq) ?_
  refine TL.val rfl rfl rfl (by first | exact Y.fieldAddrJ rfl fo66_0 rfl nqq | exact Y.fieldAddr rfl fo66_0 rfl nqq) ?_
  refine TL.eff0 rfl rfl (X.store (cs' := asC p { S.clocked now with state := 4, tset := false }) rfl (by kernel_rfl) rfl rfl rfl pul (by show 12 < 17; decide) rfl) ?_
  rintro _ _ rfl
  refine TL.nil (TQ.next (TC.seq (TC.region ?_)))
  refine TL.sg ?_
  refine TL.sg ?_
  refine TL.sg ?_
  refine TL.nil (TQ.next (TC.ret (TQ.block_ret (TQ.then_ret ?_))))
  refine TQ.retE (resL rfl (Res.tmp rfl (Res.tmp rfl (Res.tmp rfl Res.nil)))) (⟨rfl, rfl⟩) ?_
  exact ett

theorem H_shut5 (kd : UInt32) (hF : Formed l kd) (hkd : kd = 5) (ht : n32 l 0 = S.tag) (hs : S.state ≠ 3) (L : List SA) : Fn Try.prog 12 [pt b 0, .slice a n cap, vI now] (aB b p S :: SA.rds 1 (.slice a n cap) n (l.map v8) :: L) (fun v L' => v = noOut 9 ∧ L' = aB b p (S.clocked now) :: SA.rds 1 (.slice a n cap) n (l.map v8) :: L) := by
  have hlen := hF.len
  refine Fn.of (N := 160) Try.func12 rfl rfl ?_
  intro Xh
  refine TC.seq (TC.region ?_)
  refine TL.sg ?_
  refine TL.sg ?_
  refine TL.sg ?_
  refine TL.nil (TQ.next (TC.seq (TC.seq (TC.region ?_))))
  refine TL.mv ?_
  refine TL.val rfl rfl rfl (by first | exact Y.eqNilP rfl Try.underlying26 rfl rfl | exact Y.eqNil0 rfl Try.underlying26 rfl rfl) ?_
  refine TL.nil (TQ.next ?_)
  refine TC.cond_f rfl ?_
  refine TC.skip (TQ.next (TC.seq (TC.region ?_)))
  refine TL.mv ?_
  refine TL.mv ?_
  refine TL.nc ?_
  refine TL.val rfl rfl rfl (by first | exact Y.fieldAddrJ rfl fo68_11 rfl nqq | exact Y.fieldAddr rfl fo68_11 rfl nqq) ?_
  refine TL.val rfl rfl rfl (Y.load rfl sc2 rfl celN) ?_
  refine TL.as (vI S.clock) (by rfl) ?_
  refine TL.mv ?_
  refine TL.val rfl rfl rfl (Y.maxI rfl rfl rfl) ?_
  refine TL.as (vI (max S.clock now)) (by rfl) ?_
  refine TL.nc ?_
  refine TL.val rfl rfl rfl (by first | exact Y.fieldAddrJ rfl fo68_11 rfl nqq | exact Y.fieldAddr rfl fo68_11 rfl nqq) ?_
  refine TL.eff0 rfl rfl (X.store (cs' := asC p (S.clocked now)) rfl (by kernel_rfl) rfl rfl rfl pul (by show 11 < 17; decide) rfl) ?_
  rintro _ _ rfl
  refine TL.nil (TQ.next (TC.seq (TC.region ?_)))
  refine TL.mv ?_
  refine TL.eff rfl rfl rfl (X.cl rfl Try.func26 rfl (h := (rd.New_fn a n cap l hn hl _))) ?_
  rintro _ _ ⟨p28, rfl, rfl⟩
  refine TL.sg ?_
  refine TL.nil (TQ.next (TC.seq (TC.region ?_)))
  refine TL.mv ?_
  refine TL.eff rfl rfl rfl (X.cl rfl Try.func27 rfl (h := (u32_ok p28 l (by omega) _))) ?_
  rintro _ _ ⟨rfl, rfl⟩
  rw [show num (l.take 4) = n32 l 0 from rfl]
  refine TL.mv ?_
  refine TL.eff rfl rfl rfl (X.cl rfl Try.func27 rfl (h := (u32_ok p28 (l.drop 4) (by rw [List.length_drop]; omega) _))) ?_
  rintro _ _ ⟨rfl, rfl⟩
  rw [show num ((l.drop 4).take 4) = n32 l 4 from rfl, List.drop_drop]
  refine TL.sg ?_
  refine TL.sg ?_
  refine TL.nil (TQ.next (TC.seq (TC.region ?_)))
  refine TL.mv ?_
  refine TL.val rfl rfl rfl (Y.bin rfl rfl rfl (br_shr32 (n := 24))) ?_
  refine TL.as (v32 kd) (by (rw [← hF.kind])) ?_
  refine TL.sg ?_
  refine TL.nil (TQ.next (TC.seq (TC.seq (TC.region ?_))))
  refine TL.mv ?_
  refine TL.eff rfl rfl rfl (X.cl rfl Try.func28 rfl (h := (rd.Bad_fn _ _ _ _))) ?_
  rintro _ _ ⟨rfl, rfl⟩
  refine TL.mv ?_
  refine TL.mg ?_
  refine TL.valG rfl rfl rfl (Y.bin rfl rfl rfl (br_and32 (y := 16777215))) ?_
  refine TL.valG rfl rfl rfl (Y.bin rfl rfl rfl (br_ne32 (y := 0))) ?_
  refine TL.is false (by (simpa using hF.low)) ?_
  refine TL.val rfl rfl rfl (Y.pick_f rfl rfl rfl) ?_
  refine TL.mv ?_
  refine TL.mg ?_
  refine TL.valG rfl rfl rfl (Y.conv rfl Try.underlying22 Try.underlying5 rfl (cv_32_8)) ?_
  refine TL.mg ?_
  refine TL.effG rfl rfl rfl (X.cl rfl Try.func30 rfl (h := (rd.Left_fn _ _ _ _))) ?_
  rintro _ _ ⟨rfl, rfl⟩
  refine TL.as (vN (l.length - 8)) (by (rw [List.length_drop])) ?_
  refine TL.effG rfl rfl rfl (X.cl rfl Try.func29 rfl (h := (fits_fn kd.toUInt8 (l.length - 8) (by omega) _))) ?_
  rintro _ _ ⟨rfl, rfl⟩
  refine TL.valG rfl rfl rfl (Y.not rfl rfl) ?_
  refine TL.is false (by (rw [hF.fits]; rfl)) ?_
  refine TL.val rfl rfl rfl (Y.pick_f rfl rfl rfl) ?_
  refine TL.mv ?_
  refine TL.mg ?_
  refine TL.valG rfl rfl rfl (Y.bin rfl rfl rfl (br_eq32 (y := 0))) ?_
  refine TL.mg ?_
  refine TL.valG rfl rfl rfl (Y.bin rfl rfl rfl (br_eq32 (y := 1))) ?_
  refine TL.valG rfl rfl rfl (Y.neBool rfl Try.underlying4 rfl rfl) ?_
  refine TL.is false (by (have := hF.tagged; by_cases e1 : n32 l 0 = 0 <;> by_cases e2 : kd = 1 <;> simp_all <;> rw [beq_eq_false_iff_ne.2 e1, beq_eq_false_iff_ne.2 e2])) ?_
  refine TL.val rfl rfl rfl (Y.pick_f rfl rfl rfl) ?_
  refine TL.nil (TQ.next ?_)
  refine TC.cond_f rfl ?_
  refine TC.skip (TQ.next (TC.seq (TC.seq (TC.region ?_))))
  refine TL.mv ?_
  refine TL.val rfl rfl rfl (Y.bin rfl rfl rfl (br_leN (n := 2))) ?_
  refine TL.is false (by (subst hkd; decide)) ?_
  refine TL.mv ?_
  refine TL.not rfl rfl rfl ?_
  refine TL.not rfl rfl rfl ?_
  refine TL.not rfl rfl rfl ?_
  refine TL.not rfl rfl rfl ?_
  refine TL.not rfl rfl rfl ?_
  refine TL.val rfl rfl rfl (Y.pick_f rfl rfl rfl) ?_
  refine TL.nil (TQ.next ?_)
  refine TC.cond_f rfl ?_
  refine TC.skip (TQ.next (TC.seq (TC.block (TC.seq (TC.region ?_)))))
  refine TL.mv ?_
  refine TL.val rfl rfl rfl (Y.bin rfl rfl rfl (br_eq32 (y := 1))) ?_
  refine TL.is false (by (subst hkd; decide)) ?_
  refine TL.sg ?_
  refine TL.nil (TQ.next ?_)
  refine TC.cond_f rfl ?_
  refine TC.seq (TC.region ?_)
  refine TL.mv ?_
  refine TL.mv ?_
  refine TL.nc ?_
  refine TL.val rfl rfl rfl (by first | exact Y.fieldAddrJ rfl fo68_0 rfl nqq | exact Y.fieldAddr rfl fo68_0 rfl nqq) ?_
  refine TL.val rfl rfl rfl (Y.load rfl sc22 rfl cel32) ?_
  refine TL.as (v32 S.tag) (by rfl) ?_
  refine TL.val rfl rfl rfl (Y.bin rfl rfl rfl (br_ne32)) ?_
  refine TL.is false (by (simpa using ht)) ?_
  refine TL.sg ?_
  refine TL.nil (TQ.next ?_)
  refine TC.cond_f rfl ?_
  refine TC.seq (TC.region ?_)
  refine TL.mv ?_
  refine TL.val rfl rfl rfl (Y.bin rfl rfl rfl (br_eq32 (y := 2))) ?_
  refine TL.is false (by (subst hkd; decide)) ?_
  refine TL.sg ?_
  refine TL.nil (TQ.next ?_)
  refine TC.cond_f rfl ?_
  refine TC.seq (TC.region ?_)
  refine TL.mv ?_
  refine TL.val rfl rfl rfl (Y.bin rfl rfl rfl (br_eq32 (y := 3))) ?_
  refine TL.is false (by (subst hkd; decide)) ?_
  refine TL.sg ?_
  refine TL.nil (TQ.next ?_)
  refine TC.cond_f rfl ?_
  refine TC.seq (TC.region ?_)
  refine TL.mv ?_
  refine TL.val rfl rfl rfl (Y.bin rfl rfl rfl (br_eq32 (y := 4))) ?_
  refine TL.is false (by (subst hkd; decide)) ?_
  refine TL.sg ?_
  refine TL.nil (TQ.next ?_)
  refine TC.cond_f rfl ?_
  refine TC.seq (TC.region ?_)
  refine TL.mv ?_
  refine TL.val rfl rfl rfl (Y.bin rfl rfl rfl (br_eq32 (y := 7))) ?_
  refine TL.is false (by (subst hkd; decide)) ?_
  refine TL.sg ?_
  refine TL.nil (TQ.next ?_)
  refine TC.cond_f rfl ?_
  refine TC.seq (TC.region ?_)
  refine TL.mv ?_
  refine TL.nc ?_
  refine TL.val rfl rfl rfl (by first | exact Y.fieldAddrJ rfl fo68_3 rfl nqq | exact Y.fieldAddr rfl fo68_3 rfl nqq) ?_
  refine TL.val rfl rfl rfl (Y.load rfl sc3 rfl celN) ?_
  refine TL.as (vN S.state) (by rfl) ?_
  refine TL.val rfl rfl rfl (Y.bin rfl rfl rfl (br_neN (n := 3))) ?_
  refine TL.is true (by (simpa using hs)) ?_
  refine TL.sg ?_
  refine TL.nil (TQ.next ?_)
  refine TC.cond_t rfl ?_
  refine TC.seq (TC.region ?_)
  refine TL.sg ?_
  refine TL.sg ?_
  refine TL.sg ?_
  refine TL.nil (TQ.next (TC.ret (TQ.block_ret (TQ.then_ret ?_))))
  refine TQ.retE (resL rfl (Res.tmp rfl (Res.tmp rfl (Res.tmp rfl Res.nil)))) (⟨rfl, rfl⟩) ?_
  exact ett

theorem H_shut6 (kd : UInt32) (hF : Formed l kd) (hkd : kd = 6) (ht : n32 l 0 = S.tag) (hs : S.state ≠ 3) (L : List SA) : Fn Try.prog 12 [pt b 0, .slice a n cap, vI now] (aB b p S :: SA.rds 1 (.slice a n cap) n (l.map v8) :: L) (fun v L' => v = noOut 9 ∧ L' = aB b p (S.clocked now) :: SA.rds 1 (.slice a n cap) n (l.map v8) :: L) := by
  have hlen := hF.len
  refine Fn.of (N := 160) Try.func12 rfl rfl ?_
  intro Xh
  refine TC.seq (TC.region ?_)
  refine TL.sg ?_
  refine TL.sg ?_
  refine TL.sg ?_
  refine TL.nil (TQ.next (TC.seq (TC.seq (TC.region ?_))))
  refine TL.mv ?_
  refine TL.val rfl rfl rfl (by first | exact Y.eqNilP rfl Try.underlying26 rfl rfl | exact Y.eqNil0 rfl Try.underlying26 rfl rfl) ?_
  refine TL.nil (TQ.next ?_)
  refine TC.cond_f rfl ?_
  refine TC.skip (TQ.next (TC.seq (TC.region ?_)))
  refine TL.mv ?_
  refine TL.mv ?_
  refine TL.nc ?_
  refine TL.val rfl rfl rfl (by first | exact Y.fieldAddrJ rfl fo68_11 rfl nqq | exact Y.fieldAddr rfl fo68_11 rfl nqq) ?_
  refine TL.val rfl rfl rfl (Y.load rfl sc2 rfl celN) ?_
  refine TL.as (vI S.clock) (by rfl) ?_
  refine TL.mv ?_
  refine TL.val rfl rfl rfl (Y.maxI rfl rfl rfl) ?_
  refine TL.as (vI (max S.clock now)) (by rfl) ?_
  refine TL.nc ?_
  refine TL.val rfl rfl rfl (by first | exact Y.fieldAddrJ rfl fo68_11 rfl nqq | exact Y.fieldAddr rfl fo68_11 rfl nqq) ?_
  refine TL.eff0 rfl rfl (X.store (cs' := asC p (S.clocked now)) rfl (by kernel_rfl) rfl rfl rfl pul (by show 11 < 17; decide) rfl) ?_
  rintro _ _ rfl
  refine TL.nil (TQ.next (TC.seq (TC.region ?_)))
  refine TL.mv ?_
  refine TL.eff rfl rfl rfl (X.cl rfl Try.func26 rfl (h := (rd.New_fn a n cap l hn hl _))) ?_
  rintro _ _ ⟨p28, rfl, rfl⟩
  refine TL.sg ?_
  refine TL.nil (TQ.next (TC.seq (TC.region ?_)))
  refine TL.mv ?_
  refine TL.eff rfl rfl rfl (X.cl rfl Try.func27 rfl (h := (u32_ok p28 l (by omega) _))) ?_
  rintro _ _ ⟨rfl, rfl⟩
  rw [show num (l.take 4) = n32 l 0 from rfl]
  refine TL.mv ?_
  refine TL.eff rfl rfl rfl (X.cl rfl Try.func27 rfl (h := (u32_ok p28 (l.drop 4) (by rw [List.length_drop]; omega) _))) ?_
  rintro _ _ ⟨rfl, rfl⟩
  rw [show num ((l.drop 4).take 4) = n32 l 4 from rfl, List.drop_drop]
  refine TL.sg ?_
  refine TL.sg ?_
  refine TL.nil (TQ.next (TC.seq (TC.region ?_)))
  refine TL.mv ?_
  refine TL.val rfl rfl rfl (Y.bin rfl rfl rfl (br_shr32 (n := 24))) ?_
  refine TL.as (v32 kd) (by (rw [← hF.kind])) ?_
  refine TL.sg ?_
  refine TL.nil (TQ.next (TC.seq (TC.seq (TC.region ?_))))
  refine TL.mv ?_
  refine TL.eff rfl rfl rfl (X.cl rfl Try.func28 rfl (h := (rd.Bad_fn _ _ _ _))) ?_
  rintro _ _ ⟨rfl, rfl⟩
  refine TL.mv ?_
  refine TL.mg ?_
  refine TL.valG rfl rfl rfl (Y.bin rfl rfl rfl (br_and32 (y := 16777215))) ?_
  refine TL.valG rfl rfl rfl (Y.bin rfl rfl rfl (br_ne32 (y := 0))) ?_
  refine TL.is false (by (simpa using hF.low)) ?_
  refine TL.val rfl rfl rfl (Y.pick_f rfl rfl rfl) ?_
  refine TL.mv ?_
  refine TL.mg ?_
  refine TL.valG rfl rfl rfl (Y.conv rfl Try.underlying22 Try.underlying5 rfl (cv_32_8)) ?_
  refine TL.mg ?_
  refine TL.effG rfl rfl rfl (X.cl rfl Try.func30 rfl (h := (rd.Left_fn _ _ _ _))) ?_
  rintro _ _ ⟨rfl, rfl⟩
  refine TL.as (vN (l.length - 8)) (by (rw [List.length_drop])) ?_
  refine TL.effG rfl rfl rfl (X.cl rfl Try.func29 rfl (h := (fits_fn kd.toUInt8 (l.length - 8) (by omega) _))) ?_
  rintro _ _ ⟨rfl, rfl⟩
  refine TL.valG rfl rfl rfl (Y.not rfl rfl) ?_
  refine TL.is false (by (rw [hF.fits]; rfl)) ?_
  refine TL.val rfl rfl rfl (Y.pick_f rfl rfl rfl) ?_
  refine TL.mv ?_
  refine TL.mg ?_
  refine TL.valG rfl rfl rfl (Y.bin rfl rfl rfl (br_eq32 (y := 0))) ?_
  refine TL.mg ?_
  refine TL.valG rfl rfl rfl (Y.bin rfl rfl rfl (br_eq32 (y := 1))) ?_
  refine TL.valG rfl rfl rfl (Y.neBool rfl Try.underlying4 rfl rfl) ?_
  refine TL.is false (by (have := hF.tagged; by_cases e1 : n32 l 0 = 0 <;> by_cases e2 : kd = 1 <;> simp_all <;> rw [beq_eq_false_iff_ne.2 e1, beq_eq_false_iff_ne.2 e2])) ?_
  refine TL.val rfl rfl rfl (Y.pick_f rfl rfl rfl) ?_
  refine TL.nil (TQ.next ?_)
  refine TC.cond_f rfl ?_
  refine TC.skip (TQ.next (TC.seq (TC.seq (TC.region ?_))))
  refine TL.mv ?_
  refine TL.val rfl rfl rfl (Y.bin rfl rfl rfl (br_leN (n := 2))) ?_
  refine TL.is false (by (subst hkd; decide)) ?_
  refine TL.mv ?_
  refine TL.not rfl rfl rfl ?_
  refine TL.not rfl rfl rfl ?_
  refine TL.not rfl rfl rfl ?_
  refine TL.not rfl rfl rfl ?_
  refine TL.not rfl rfl rfl ?_
  refine TL.val rfl rfl rfl (Y.pick_f rfl rfl rfl) ?_
  refine TL.nil (TQ.next ?_)
  refine TC.cond_f rfl ?_
  refine TC.skip (TQ.next (TC.seq (TC.block (TC.seq (TC.region ?_)))))
  refine TL.mv ?_
  refine TL.val rfl rfl rfl (Y.bin rfl rfl rfl (br_eq32 (y := 1))) ?_
  refine TL.is false (by (subst hkd; decide)) ?_
  refine TL.sg ?_
  refine TL.nil (TQ.next ?_)
  refine TC.cond_f rfl ?_
  refine TC.seq (TC.region ?_)
  refine TL.mv ?_
  refine TL.mv ?_
  refine TL.nc ?_
  refine TL.val rfl rfl rfl (by first | exact Y.fieldAddrJ rfl fo68_0 rfl nqq | exact Y.fieldAddr rfl fo68_0 rfl nqq) ?_
  refine TL.val rfl rfl rfl (Y.load rfl sc22 rfl cel32) ?_
  refine TL.as (v32 S.tag) (by rfl) ?_
  refine TL.val rfl rfl rfl (Y.bin rfl rfl rfl (br_ne32)) ?_
  refine TL.is false (by (simpa using ht)) ?_
  refine TL.sg ?_
  refine TL.nil (TQ.next ?_)
  refine TC.cond_f rfl ?_
  refine TC.seq (TC.region ?_)
  refine TL.mv ?_
  refine TL.val rfl rfl rfl (Y.bin rfl rfl rfl (br_eq32 (y := 2))) ?_
  refine TL.is false (by (subst hkd; decide)) ?_
  refine TL.sg ?_
  refine TL.nil (TQ.next ?_)
  refine TC.cond_f rfl ?_
  refine TC.seq (TC.region ?_)
  refine TL.mv ?_
  refine TL.val rfl rfl rfl (Y.bin rfl rfl rfl (br_eq32 (y := 3))) ?_
  refine TL.is false (by (subst hkd; decide)) ?_
  refine TL.sg ?_
  refine TL.nil (TQ.next ?_)
  refine TC.cond_f rfl ?_
  refine TC.seq (TC.region ?_)
  refine TL.mv ?_
  refine TL.val rfl rfl rfl (Y.bin rfl rfl rfl (br_eq32 (y := 4))) ?_
  refine TL.is false (by (subst hkd; decide)) ?_
  refine TL.sg ?_
  refine TL.nil (TQ.next ?_)
  refine TC.cond_f rfl ?_
  refine TC.seq (TC.region ?_)
  refine TL.mv ?_
  refine TL.val rfl rfl rfl (Y.bin rfl rfl rfl (br_eq32 (y := 7))) ?_
  refine TL.is false (by (subst hkd; decide)) ?_
  refine TL.sg ?_
  refine TL.nil (TQ.next ?_)
  refine TC.cond_f rfl ?_
  refine TC.seq (TC.region ?_)
  refine TL.mv ?_
  refine TL.nc ?_
  refine TL.val rfl rfl rfl (by first | exact Y.fieldAddrJ rfl fo68_3 rfl nqq | exact Y.fieldAddr rfl fo68_3 rfl nqq) ?_
  refine TL.val rfl rfl rfl (Y.load rfl sc3 rfl celN) ?_
  refine TL.as (vN S.state) (by rfl) ?_
  refine TL.val rfl rfl rfl (Y.bin rfl rfl rfl (br_neN (n := 3))) ?_
  refine TL.is true (by (simpa using hs)) ?_
  refine TL.sg ?_
  refine TL.nil (TQ.next ?_)
  refine TC.cond_t rfl ?_
  refine TC.seq (TC.region ?_)
  refine TL.sg ?_
  refine TL.sg ?_
  refine TL.sg ?_
  refine TL.nil (TQ.next (TC.ret (TQ.block_ret (TQ.then_ret ?_))))
  refine TQ.retE (resL rfl (Res.tmp rfl (Res.tmp rfl (Res.tmp rfl Res.nil)))) (⟨rfl, rfl⟩) ?_
  exact ett

end
end ac
end Go.Proofs.Ytomplpdeeomehaa


/- Maps that are only read. No program is named. -/
namespace Go.Proofs.Ytomplpdeeomehaa
set_option linter.unusedVariables false
set_option linter.unusedSimpArgs false
open Go.RowKit Go.MapKept
section
variable {β : Type} [Dat β]
def SA.rmapD (b : Nat) (m : UInt32 → Option β) : SA where
  p w O R := R b ∧ ∃ (es : Array MapEntry) (clock : Nat) (l : List (UInt32 × β)), w.heap[b]? = some (.map es clock) ∧ EntsOf es l ∧ (∀ k, m k = mget l k) ∧ (l.map fun x : UInt32 × β => x.1).Nodup
  loc := by
    rintro w w' O R ⟨hO, es, clock, l, h1, h2, h3, h4⟩ hg
    exact ⟨hO, es, clock, l, (hg.block b (Array.getElem?_eq_some_iff.1 h1).1 (.inr hO)).trans h1, h2, h3, h4⟩
theorem Dup.rmapD {b : Nat} {m : UInt32 → Option β} : Dup (SA.rmapD b m) := fun _ _ _ h => h
theorem Lend1.mapD {b : Nat} {m : UInt32 → Option β} : Lend1 (SA.mapD b m) (SA.rmapD b m) := fun w O R ⟨hO, es, clock, l, h1, h2, h3, h4, _⟩ => ⟨fun k => k = b, ⟨rfl, es, clock, l, h1, h2, h3, h4⟩, fun k hk => .inl (hk ▸ hO)⟩
end
section
variable {P : Program} {N : Nat} {F : FE} {As L L0 : List SA} {o : Oper} {x y z : Operand} {β : Type} [Dat β]
theorem Y.lookupR {t kt et b : Nat} {m : UInt32 → Option β} {k : UInt32} {zc : Array Value} (ho : o.op = .lookup t x y true) (ht : P.underlying t = some (.map kt et)) (hk : P.underlying kt = some (.int .u32)) (hz : ((P.info? et).bind (·.zero)) = some (.agg zc))
    (hx : evO F x = some (.map (some b))) (hy : evO F y = some (v32 k)) (hin : In (SA.rmapD b m) As) : Yld P N o F As (.tuple #[(match m k with | some v => .agg (Dat.c v).toArray | none => .agg zc), .bool (m k).isSome]) := fun a w ha hw => by
  unfold execOp; rw [ho]
  replace hx := ha.eval hx
  replace hy := ha.eval hy
  generalize a.eval = ρ at hx hy ⊢
  obtain ⟨O, R, -, es, clock, l, hb, he, hm, hn⟩ := hw _ hin
  obtain ⟨inf, hinf, hzz⟩ := Option.bind_eq_some_iff.1 hz
  simp only [hx, hy]
  rcases he.find hn k with ⟨h1, h2⟩ | ⟨j, e, v, h1, -, -, -, h2⟩
  · have hmk : m k = none := (hm k).trans h2
    have hzv : (zeroValue et).run P w = .ok (.agg zc) w := by simp [zeroValue, typeInfo, hinf, hzz, go_sem]
    simp [Instr.lookup, run_underlying ht, Go.MapKept.run_getObj_map hb, run_checkKey (k := v32 k) hk rfl, run_findKey hk h1, hzv, hmk, Result.andThen]
  · have hmk : m k = some v := (hm k).trans h2
    simp [Instr.lookup, run_underlying ht, Go.MapKept.run_getObj_map hb, run_checkKey (k := v32 k) hk rfl, run_findKey hk h1, hmk, Result.andThen]
end
end Go.Proofs.Ytomplpdeeomehaa


/- assoc: beyond, sack, walked. -/
namespace Go.Proofs.Ytomplpdeeomehaa
set_option linter.unusedVariables false
set_option linter.unusedSimpArgs false
open Go.RowKit
namespace ac
open wr (be16 be32)
namespace FxAsS
set_option maxRecDepth 100000
theorem sc26 : Program.isSc Try.prog 26 = true := by kernel_rfl
end FxAsS
open Go.Proofs.Ytomplpdeeomehaa.ac.FxAsE Go.Proofs.Ytomplpdeeomehaa.ac.FxAsR Go.Proofs.Ytomplpdeeomehaa.sha.FxShaBlock Go.Proofs.Ytomplpdeeomehaa.ac.FxAsC FxAsS
section
variable {μ : Type} (S : AS μ)
def AS.seqN (n : Nat) : List UInt32 := ((List.range n).map fun d => S.top + 1 + UInt32.ofNat d).filter fun t => (S.kept t).isSome
theorem AS.seqN_s (n : Nat) : S.seqN (n + 1) = S.seqN n ++ if (S.kept (S.top + 1 + UInt32.ofNat n)).isSome then [S.top + 1 + UInt32.ofNat n] else [] := by
  unfold AS.seqN
  rw [List.range_succ, List.map_append, List.filter_append]
  congr 1
  simp only [List.map_cons, List.map_nil, List.filter_cons, List.filter_nil]
theorem AS.seqN_mono (n m : Nat) (h : n ≤ m) : ∃ r, S.seqN m = S.seqN n ++ r := by
  induction m with
  | zero => exact ⟨[], by rw [Nat.le_zero.1 h, List.append_nil]⟩
  | succ m ih =>
    rcases Nat.lt_or_eq_of_le h with h | rfl
    · obtain ⟨r, hr⟩ := ih (by omega)
      exact ⟨_, by rw [AS.seqN_s, hr, List.append_assoc]⟩
    · exact ⟨[], (List.append_nil _).symm⟩
theorem AS.seqN_yes {n : Nat} (hn : n < 32) (h : (S.kept (S.top + 1 + UInt32.ofNat n)).isSome = true) : (S.seqN n).length < S.beyond.length ∧ S.beyond.getD (S.seqN n).length 0 = S.top + 1 + UInt32.ofNat n ∧ (S.seqN (n + 1)).length = (S.seqN n).length + 1 := by
  obtain ⟨r, hr⟩ := S.seqN_mono (n + 1) 32 hn
  have h1 : S.seqN (n + 1) = S.seqN n ++ [S.top + 1 + UInt32.ofNat n] := by rw [AS.seqN_s, if_pos h]
  have hb : S.beyond = S.seqN n ++ (S.top + 1 + UInt32.ofNat n) :: r := by
    show S.seqN 32 = _
    rw [hr, h1, List.append_assoc]; rfl
  rw [hb, h1]
  refine ⟨by simp, ?_, by simp⟩
  rw [List.getD_eq_getElem?_getD, List.getElem?_append_right (Nat.le_refl _)]
  simp
theorem AS.seqN_no {n : Nat} (h : (S.kept (S.top + 1 + UInt32.ofNat n)).isSome = false) : S.seqN (n + 1) = S.seqN n := by rw [AS.seqN_s, h]; simp
end
abbrev cT := 26
--REG (*rostrum/assoc.Assoc).beyond : _ _ ⟨c{d}, rfl, rfl⟩ => (ac.beyond_fn _ _)
theorem beyond_fn (b : Nat) (L : List SA) : Fn Try.prog 52 [pt b 0] L (fun v L' => ∃ c, v = .func (.func 55) #[] #[pt c 0] ∧ L' = SA.rblk c #[pt b 0] cT :: L) := by
  refine Fn.of (N := 4) Try.func52 rfl rfl ?_
  intro Xh
  refine TC.seq (TC.region ?_)
  refine TL.eff rfl rfl rfl (X.box1 rfl rfl rfl) ?_
  rintro _ _ ⟨b1, rfl, rfl⟩
  refine TL.sg ?_
  refine TL.nil (TQ.next (TC.seq ?_))
  refine TC.to ((Pull.ent (A := SA.blk b1 #[pt b 0] cT) pul).trans Ent.freezeB) ?_
  refine TC.region ?_
  refine TL.val rfl rfl rfl (Y.makeFunc rfl rfl rfl) ?_
  refine TL.sg ?_
  refine TL.nil (TQ.next (TC.ret ?_))
  refine TQ.retE (res1 rfl rfl) (⟨b1, rfl, rfl⟩) ?_
  exact ett
abbrev rB (b : Nat) (p : AP) (S : AS Msg) : SA := SA.rblk b (asC p S) 68
abbrev rM (p : AP) (S : AS Msg) : SA := SA.rmapD p.mb S.kept
theorem Ent.dup3 {X A B C : SA} {L : List SA} (hA : Dup A) (hB : Dup B) (hC : Dup C) : Ent (X :: A :: B :: C :: L) (X :: A :: B :: C :: A :: B :: C :: L) :=
  (Ent.under X (Ent.dup hA)).trans ((Ent.under X (Ent.under A (Ent.under A (Ent.dup hB)))).trans ((Ent.under X (Ent.under A (Ent.under A (Ent.under B (Ent.under B (Ent.dup hC)))))).trans (by exact ett)))
set_option maxHeartbeats 1000000 in
theorem beyond_iter (c b : Nat) (p : AP) (S : AS Msg) : Iter Try.prog 55 [pt c 0] S.beyond.length (fun i => [v32 (S.beyond.getD i 0)]) [SA.rblk c #[pt b 0] cT, rB b p S, rM p S] := fun ly Sy Sx hY Xa hX => by
  refine Fn.of (N := 38) Try.func55 rfl rfl ?_
  intro Xh
  refine TC.seq (TC.region ?_)
  refine TL.mv ?_
  refine TL.nil (TQ.next (TC.block ?_))
  refine TC.to (Ent.trans (Ent.cons (A := Xa) pul (Ent.cons (A := SA.rblk c #[pt b 0] cT) pul (Ent.cons (A := rB b p S) pul (Ent.cons (A := rM p S) pul Ent.refl)))) ((Ent.dup3 Dup.rblk Dup.rblk Dup.rmapD).trans (Ent.app (L1 := [Xa, SA.rblk c #[pt b 0] cT, rB b p S, rM p S]) (L2 := [Sy 0]) hX))) ?_
  simp only [List.cons_append, List.nil_append]
  refine TC.loopF (ι := Nat) [] (fun k => k ≤ 32) (fun k => [(6, some (v32 (UInt32.ofNat k)))]) (fun k => [Sy (S.seqN k).length]) (fun k => 32 - k) (0) (by omega) ⟨rfl, trivial⟩ (Pulls.cons pul Pulls.nil) ?_
  rintro k hk F' L' rfl hL'
  simp only [List.cons_append, List.nil_append] at hL'
  subst hL'
  refine TC.seq (TC.region ?_)
  refine TL.val rfl rfl rfl (Y.bin rfl rfl rfl (br_ltN (n := 32))) ?_
  refine TL.as (.bool (decide (k < 32))) (by (rw [UInt32.toNat_ofNat_of_lt' (by show k < 4294967296; omega)])) ?_
  refine TL.nil (TQ.next (TC.seq ?_))
  refine TC.cond rfl (fun c0 => ?_) (fun c0 => ?_)
  · try simp only [zA, zB, zC, zD, zE, zF, zG, zH, zI, zJ] at c0
    refine TC.skip (TQ.next (TC.seq (TC.block (TC.seq (TC.region ?_)))))
    refine TL.mv ?_
    refine TL.sg ?_
    refine TL.nil (TQ.next (TC.seq ?_))
    refine TC.draws 16 _ (by kernel_rfl) (by kernel_rfl) (fun _ h => h) ?_
    refine TA.tk 0 rfl rfl (Y.load rfl sc26 rfl celD) ?_
    refine TA.tk 1 rfl rfl (Y.nilCheck rfl rfl) ?_
    refine TA.tk 2 rfl rfl (by first | exact Y.fieldAddrJ rfl fo68_7 rfl nqq | exact Y.fieldAddr rfl fo68_7 rfl nqq) ?_
    refine TA.tk 3 rfl rfl (Y.load rfl sc63 rfl celD) ?_
    refine TA.as (.map (some p.mb)) (by rfl) ?_
    refine TA.tk 4 rfl rfl (Y.load rfl sc26 rfl celD) ?_
    refine TA.tk 5 rfl rfl (Y.nilCheck rfl rfl) ?_
    refine TA.tk 6 rfl rfl (by first | exact Y.fieldAddrJ rfl fo68_6 rfl nqq | exact Y.fieldAddr rfl fo68_6 rfl nqq) ?_
    refine TA.tk 7 rfl rfl (Y.load rfl sc22 rfl cel32) ?_
    refine TA.as (v32 S.top) (by rfl) ?_
    refine TA.tk 8 rfl rfl (Y.bin rfl rfl rfl (br_add32 (y := 1))) ?_
    refine TA.tk 9 rfl rfl (Y.move rfl rfl) ?_
    refine TA.tk 10 rfl rfl (Y.bin rfl rfl rfl (br_add32)) ?_
    refine TA.tk 11 rfl rfl (Y.lookupR (β := Msg) rfl mapT Try.underlying22 zMsg rfl rfl (by exact inn)) ?_
    refine TA.as (.tuple #[.agg (lkC (S.kept (S.top + 1 + UInt32.ofNat k))), .bool (S.kept (S.top + 1 + UInt32.ofNat k)).isSome]) (by (rcases S.kept (S.top + 1 + UInt32.ofNat k) with _ | m <;> rfl)) ?_
    refine TA.tk 12 rfl rfl (Y.move rfl rfl) ?_
    refine TA.tk 13 rfl rfl (Y.extract rfl rfl rfl) ?_
    refine TA.tp 14 rfl rfl (Y.extract rfl rfl rfl) ?_
    refine TA.one 15 (by kernel_rfl) rfl rfl rfl rfl (X.alloc rfl zc51) ?_
    rintro _ _ ⟨b4, rfl, rfl⟩
    refine ⟨(Or.inr (fun w h A hA => h A (by with_reducible (first | assumption | (repeat first | exact In.there hA | apply In.there))))), ?_⟩
    refine TA.one0 16 (by kernel_rfl) rfl rfl rfl (X.storeAll rfl (by kernel_rfl) (lkC_size _) rfl rfl (lkC_one _) pul (by rfl)) ?_
    rintro _ _ rfl
    refine ⟨(Or.inl (by kernel_rfl)), ?_⟩
    refine TA.tp 17 rfl rfl (Y.assign rfl rfl) ?_
    refine TA.done (by kernel_rfl) ?_
    refine TQ.next (TC.seq (TC.region ?_))
    refine TL.mv ?_
    refine TL.mv ?_
    refine TL.case (fun g4_1 => ?_) (fun g4_1 => ?_)
    · try simp only [zA, zB, zC, zD, zG, zH, zI, zJ] at g4_1
      refine TL.mg ?_
      refine TL.valG rfl rfl rfl (Y.load rfl sc26 rfl celD) ?_
      refine TL.valG rfl rfl rfl (Y.nilCheck rfl rfl) ?_
      refine TL.valG rfl rfl rfl (by first | exact Y.fieldAddrJ rfl fo68_6 rfl nqq | exact Y.fieldAddr rfl fo68_6 rfl nqq) ?_
      refine TL.valG rfl rfl rfl (Y.load rfl sc22 rfl cel32) ?_
      refine TL.as (v32 S.top) (by rfl) ?_
      refine TL.valG rfl rfl rfl (Y.bin rfl rfl rfl (br_add32 (y := 1))) ?_
      refine TL.mg ?_
      refine TL.valG rfl rfl rfl (Y.bin rfl rfl rfl (br_add32)) ?_
      try have hyes := S.seqN_yes (by assumption) (by assumption : (S.kept (S.top + 1 + UInt32.ofNat k)).isSome = true)
      refine TL.effGI rfl rfl rfl (X.yieldB hY rfl rfl (by show _ = some [v32 (S.beyond.getD (S.seqN k).length 0)]; rw [hyes.2.1]; rfl) hyes.1 pul) ?_
      rintro _ _ ⟨bo, rfl, rfl⟩
      refine TL.valG rfl rfl rfl (Y.not rfl rfl) ?_
      refine TL.val rfl rfl rfl (Y.pick_t rfl rfl rfl) ?_
      refine TL.nil (TQ.next ?_)
      refine TC.cond rfl (fun c1 => ?_) (fun c1 => ?_)
      · try simp only [zA, zB, zC, zD, zE, zF, zG, zH, zI, zJ] at c1
        subst c1
        have hstop : True := trivial
        simp only [cond_false]
        refine TC.ret (TQ.block_ret (TQ.then_ret (TQ.then_ret (TQ.block_ret ?_))))
        refine TQ.retE (res0 rfl) ((by first | (have := hstop; exact Or.inr rfl) | exact Or.inl rfl)) ?_
        exact ett
      · try simp only [zA, zB, zC, zD, zE, zF, zG, zH, zI, zJ] at c1
        subst c1
        simp only [cond_true]
        refine TC.skip (TQ.block_normal (TQ.next (TC.region ?_)))
        refine TL.val rfl rfl rfl (Y.bin rfl rfl rfl (br_add32 (y := 1))) ?_
        refine TL.as (v32 (UInt32.ofNat (k + 1))) (by (rw [UInt32.ofNat_add]; rfl)) ?_
        refine TL.mv ?_
        refine TL.nil ?_
        first
        | rw [← hyes.2.2]
        | rw [← S.seqN_no (by assumption)]
        refine TQ.loopF (k + 1) (by omega) (by omega) ⟨rfl, trivial⟩ grw ?_ ?_ ?_
        · kernel_rfl
        · rfl
        · simp only [List.cons_append, List.nil_append]
          exact ett
    · try simp only [zA, zB, zC, zD, zG, zH, zI, zJ] at g4_1
      refine TL.not rfl rfl rfl ?_
      refine TL.not rfl rfl rfl ?_
      refine TL.not rfl rfl rfl ?_
      refine TL.not rfl rfl rfl ?_
      refine TL.not rfl rfl rfl ?_
      refine TL.not rfl rfl rfl ?_
      refine TL.not rfl rfl rfl ?_
      refine TL.not rfl rfl rfl ?_
      try have hyes := S.seqN_yes (by assumption) (by assumption : (S.kept (S.top + 1 + UInt32.ofNat k)).isSome = true)
      refine TL.not rfl rfl rfl ?_
      refine TL.not rfl rfl rfl ?_
      refine TL.val rfl rfl rfl (Y.pick_f rfl rfl rfl) ?_
      refine TL.nil (TQ.next ?_)
      refine TC.cond_f rfl ?_
      refine TC.skip (TQ.block_normal (TQ.next (TC.region ?_)))
      refine TL.val rfl rfl rfl (Y.bin rfl rfl rfl (br_add32 (y := 1))) ?_
      refine TL.as (v32 (UInt32.ofNat (k + 1))) (by (rw [UInt32.ofNat_add]; rfl)) ?_
      refine TL.mv ?_
      refine TL.nil ?_
      first
      | rw [← hyes.2.2]
      | rw [← S.seqN_no (by assumption)]
      refine TQ.loopF (k + 1) (by omega) (by omega) ⟨rfl, trivial⟩ grw ?_ ?_ ?_
      · kernel_rfl
      · rfl
      · simp only [List.cons_append, List.nil_append]
        exact ett
  · try simp only [zA, zB, zC, zD, zE, zF, zG, zH, zI, zJ] at c0
    obtain rfl : k = 32 := by omega
    rw [show S.seqN 32 = S.beyond from rfl]
    refine TC.exit (TQ.then_exit (TQ.then_exit (TQ.block_exit ?_)))
    refine TQ.endE (res0 rfl) ((by first | (have := hstop; exact Or.inr rfl) | exact Or.inl rfl)) ?_
    exact ett
end ac
end Go.Proofs.Ytomplpdeeomehaa


/- assoc: sack, walked. -/
namespace Go.Proofs.Ytomplpdeeomehaa
set_option linter.unusedVariables false
set_option linter.unusedSimpArgs false
open Go.RowKit
namespace ac
open wr (be16 be32)
namespace FxAsU
set_option maxRecDepth 100000
theorem sz3 : (Try.prog.info? 3).map (·.size) = some 1 := by kernel_rfl
theorem zc3 : Program.zeroC Try.prog 3 = some #[.int .i64 0] := by kernel_rfl
end FxAsU
open Go.Proofs.Ytomplpdeeomehaa.ac.FxAsC Go.Proofs.Ytomplpdeeomehaa.ac.FxAsE Go.Proofs.Ytomplpdeeomehaa.sha.FxShaBlock Go.Proofs.Ytomplpdeeomehaa.ac.FxAsA Go.Proofs.Ytomplpdeeomehaa.wr.FxWireW FxAsU
section
variable {μ : Type} (S : AS μ)
def AS.skB (i : Nat) : List UInt8 := pkt S.other 6 ++ be32 S.top ++ (S.beyond.take i).flatMap be32
theorem AS.skB_len (i : Nat) (h : i ≤ 16) : (S.skB i).length ≤ 76 := by
  unfold AS.skB
  rw [List.length_append, List.length_append, pkt_len, flat_len4, List.length_take]
  show 8 + 4 + _ ≤ _; omega
theorem AS.skB_s (i : Nat) (h : i < S.beyond.length) : S.skB i ++ be32 (S.beyond.getD i 0) = S.skB (i + 1) := by
  unfold AS.skB
  rw [List.append_assoc, flat4 S.beyond i _ (by rw [List.getD_eq_getElem?_getD, List.getElem?_eq_getElem h]; rfl)]
end
set_option maxHeartbeats 1000000 in
theorem sackR (b : Nat) (p : AP) (S : AS Msg) (L : List SA) : Fn Try.prog 37 [pt b 0] (rB b p S :: rM p S :: L)
    (fun v L' => ∃ a c, v = .slice a S.sackB.length c ∧ L' = SA.owns 5 1 (.slice a S.sackB.length c) S.sackB.length (S.sackB.map v8) :: rB b p S :: rM p S :: L) := by
  refine Fn.of (N := 26) Try.func37 rfl rfl ?_
  intro Xh
  refine TC.seq (TC.region ?_)
  refine TL.sg ?_
  refine TL.nil (TQ.next (TC.scope (TC.seq (TC.region ?_))))
  refine TL.mv ?_
  refine TL.nc ?_
  refine TL.val rfl rfl rfl (by first | exact Y.fieldAddrJ rfl fo68_5 rfl nqq | exact Y.fieldAddr rfl fo68_5 rfl nqq) ?_
  refine TL.val rfl rfl rfl (Y.load rfl sc22 rfl cel32) ?_
  refine TL.as (v32 S.other) (by rfl) ?_
  refine TL.eff rfl rfl rfl (X.cl rfl Try.func44 rfl (h := (packet_fn S.other 6 _))) ?_
  rintro _ _ ⟨a10, c10, rfl, rfl⟩
  refine TL.eff rfl rfl rfl (X.alloc rfl zc85) ?_
  rintro _ _ ⟨b3, rfl, rfl⟩
  refine TL.eff0 rfl rfl (by first | exact X.store rfl sz85 rfl rfl rfl pul lnn (by first | exact setM | rfl) | exact X.storeOwn rfl sz85 rfl (Nat.zero_add _).symm rfl rfl pul lnn (by first | exact setML | rfl) | exact X.storeOwn rfl sz85 rfl rfl rfl rfl pul lnn (by first | exact setML | rfl)) ?_
  rintro _ _ rfl
  refine TL.nil ?_
  refine TQ.to (wr.put (b := b3) pul (by rfl) pul (l := pkt S.other 6) rfl rfl Ent.refl) ?_
  refine TQ.next (TC.seq (TC.region ?_))
  refine TL.mv ?_
  refine TL.nc ?_
  refine TL.val rfl rfl rfl (by first | exact Y.fieldAddrJ rfl fo68_6 rfl nqq | exact Y.fieldAddr rfl fo68_6 rfl nqq) ?_
  refine TL.val rfl rfl rfl (Y.load rfl sc22 rfl cel32) ?_
  refine TL.as (v32 S.top) (by rfl) ?_
  refine TL.eff rfl rfl rfl (X.cl rfl Try.func45 rfl (h := (wr.U32_fn b3 S.top (pkt S.other 6) (by show 8 ≤ _; decide) _))) ?_
  rintro _ _ ⟨rfl, rfl⟩
  rw [show pkt S.other 6 ++ be32 S.top = S.skB 0 from (List.append_nil _).symm]
  refine TL.nil (TQ.next (TC.seq (TC.region ?_)))
  refine TL.eff rfl rfl rfl (X.alloc rfl zc3) ?_
  rintro _ _ ⟨b4, rfl, rfl⟩
  refine TL.eff0 rfl rfl (by first | exact X.store rfl sz3 rfl rfl rfl pul lnn (by first | exact setM (f := vN) (x := 0) | rfl) | exact X.storeOwn rfl sz3 rfl (Nat.zero_add _).symm rfl rfl pul lnn (by first | exact setML (f := vN) (x := 0) | rfl) | exact X.storeOwn rfl sz3 rfl rfl rfl rfl pul lnn (by first | exact setML (f := vN) (x := 0) | rfl)) ?_
  rintro _ _ rfl
  refine TL.nil (TQ.next (TC.seq ?_))
  refine TC.label ?_
  refine TQ.next (TC.seq (TC.seq (TC.region ?_)))
  refine TL.mv ?_
  refine TL.eff rfl rfl rfl (X.cl rfl Try.func52 rfl (h := (ac.beyond_fn _ _))) ?_
  rintro _ _ ⟨c17, rfl, rfl⟩
  refine TL.nil (TQ.next (TC.block ?_))
  refine TC.to ((Pull.ent (A := rB b p S) pul).trans ((Ent.dup Dup.rblk).trans (Ent.swap.trans ((Pull.ent (A := rM p S) pul).trans (Ent.dup Dup.rmapD))))) ?_
  refine TC.rangeF (ι := Nat) (ιx := Unit) Try.func55 (by kernel_rfl) (by kernel_rfl) rfl (by kernel_rfl) (beyond_iter c17 b p S) (fun _ => rfl) (fun i j => j = i ∧ i ≤ 16) (fun j => [wr.W b3 (S.skB j), SA.blk b4 #[vN j] 3]) _ (fun _ => True) (fun _ => .exit 0) (fun _ => [wr.W b3 (S.skB 16), SA.blk b4 #[vN 17] 3]) (0) (⟨rfl, by decide⟩) (Pulls.cons pul (Pulls.cons pul (Pulls.cons pul Pulls.nil))) (Pulls.ent (Pulls.cons pul (Pulls.cons pul Pulls.nil))) ?_ ?_ ?_
  · rintro i j hi ⟨rfl, h16⟩ lr rr ZZ F' L' rfl hL'
    simp only [List.cons_append, List.nil_append] at hL'
    subst hL'
    simp only [psF, List.nil_append, List.append_nil, List.cons_append]
    refine TC.region ?_
    refine TL.sg ?_
    refine TL.nil ?_
    refine TQ.begin ?_
    refine TC.block (TC.seq (TC.seq (TC.region ?_)))
    refine TL.val rfl rfl rfl (Y.load rfl sc3 rfl celN) ?_
    refine TL.val rfl rfl rfl (Y.bin rfl rfl rfl (br_addN (n := 1) (by omega))) ?_
    refine TL.eff0 rfl rfl (by first | exact X.store rfl sz3 rfl rfl rfl pul lnn (by first | exact setM | rfl) | exact X.storeOwn rfl sz3 rfl (Nat.zero_add _).symm rfl rfl pul lnn (by first | exact setML | rfl) | exact X.storeOwn rfl sz3 rfl rfl rfl rfl pul lnn (by first | exact setML | rfl)) ?_
    rintro _ _ rfl
    refine TL.nil (TQ.next (TC.seq (TC.region ?_)))
    refine TL.val rfl rfl rfl (Y.load rfl sc3 rfl celN) ?_
    refine TL.val rfl rfl rfl (Y.bin rfl rfl rfl (br_gtN (n := 16))) ?_
    refine TL.nil (TQ.next ?_)
    refine TC.cond rfl (fun c0 => ?_) (fun c0 => ?_)
    · try simp only [zA, zB, zC, zD, zE, zF, zG, zH, zI, zJ] at c0
      obtain rfl : j = 16 := by omega
      refine TC.exit (TQ.then_exit (TQ.block_out rfl ?_))
      refine TQ.rd_exit (()) (trivial) rfl ?_
      simp only [List.cons_append, List.nil_append]
      exact ett
    · try simp only [zA, zB, zC, zD, zE, zF, zG, zH, zI, zJ] at c0
      refine TC.skip (TQ.next (TC.region ?_))
      refine TL.mv ?_
      refine TL.eff rfl rfl rfl (X.cl rfl Try.func45 rfl (h := (wr.U32_fn b3 (S.beyond.getD j 0) (S.skB j) (by have := S.skB_len j h16; omega) _))) ?_
      rintro _ _ ⟨rfl, rfl⟩
      rw [S.skB_s j hi]
      refine TL.nil (TQ.block_normal ?_)
      refine TQ.rd_next (j + 1) (⟨rfl, by omega⟩) ?_
      simp only [List.cons_append, List.nil_append]
      exact ett
  · rintro j ⟨rfl, h16⟩ L' hL'
    simp only [List.cons_append, List.nil_append] at hL'
    subst hL'
    rw [show S.skB S.beyond.length = S.skB 16 by unfold AS.skB; rw [List.take_of_length_le (Nat.le_refl _), List.take_of_length_le h16]]
    refine TQ.block_normal (TQ.next (TC.seq ?_))
    rw [show S.skB 16 = S.sackB from rfl]
    refine TC.open pul ?_
    rintro ⟨wa, wc⟩
    refine TC.split pul ?_
    refine TC.region ?_
    refine TL.val rfl rfl rfl (Y.load rfl sc85 rfl celD) ?_
    refine TL.sg ?_
    refine TL.nil (TQ.next (TC.ret (TQ.scope_ret ?_)))
    refine TQ.retE (res1 rfl rfl) (⟨_, _, rfl, rfl⟩) ?_
    exact ett
  · rintro ⟨⟩ - L' hL'
    simp only [List.cons_append, List.nil_append] at hL'
    subst hL'
    refine TC.exit (TQ.block_exit (TQ.next (TC.seq ?_)))
    rw [show S.skB 16 = S.sackB from rfl]
    refine TC.open pul ?_
    rintro ⟨wa, wc⟩
    refine TC.split pul ?_
    refine TC.region ?_
    refine TL.val rfl rfl rfl (Y.load rfl sc85 rfl celD) ?_
    refine TL.sg ?_
    refine TL.nil (TQ.next (TC.ret (TQ.scope_ret ?_)))
    refine TQ.retE (res1 rfl rfl) (⟨_, _, rfl, rfl⟩) ?_
    exact ett
--REG (*rostrum/assoc.Assoc).sack : _ _ ⟨a{d}, c{d}, rfl, rfl⟩ => (ac.sack_fn _ _ _ _)
theorem sack_fn (b : Nat) (p : AP) (S : AS Msg) (L : List SA) : Fn Try.prog 37 [pt b 0] (aB b p S :: aM p S :: L)
    (fun v L' => ∃ a c, v = .slice a S.sackB.length c ∧ L' = SA.owns 5 1 (.slice a S.sackB.length c) S.sackB.length (S.sackB.map v8) :: aB b p S :: aM p S :: L) := by
  refine (Fn.lend (R := fun v Ln => ∃ a c, v = .slice a S.sackB.length c ∧ Ln = [SA.owns 5 1 (.slice a S.sackB.length c) S.sackB.length (S.sackB.map v8)]) (As := [aB b p S, aM p S]) (Bs := [rB b p S, rM p S]) (Lend.cons Lend1.blk (Lend.cons Lend1.mapD Lend.nil)) ((sackR b p S []).mono ?_) L).mono ?_
  · rintro v L' ⟨a, c, rfl, rfl⟩
    exact ⟨_, Ent.refl, [_], ⟨a, c, rfl, rfl⟩, fun A hA => by rw [hA.one]; exact OO.owns, rfl⟩
  · rintro v L' ⟨Ln, ⟨a, c, rfl, rfl⟩, rfl⟩
    exact ⟨_, Ent.refl, a, c, rfl, rfl⟩
end ac
end Go.Proofs.Ytomplpdeeomehaa


/- assoc: more, walked. -/
namespace Go.Proofs.Ytomplpdeeomehaa
set_option linter.unusedVariables false
set_option linter.unusedSimpArgs false
open Go.RowKit
namespace ac
open wr (be16 be32)
namespace FxAsM
set_option maxRecDepth 100000
theorem fo68_10 : Program.fieldOff Try.prog 68 10 = some 10 := by kernel_rfl
end FxAsM
open Go.Proofs.Ytomplpdeeomehaa.sha.FxShaMac Go.Proofs.Ytomplpdeeomehaa.ac.FxAsC Go.Proofs.Ytomplpdeeomehaa.ac.FxAsA Go.Proofs.Ytomplpdeeomehaa.rd.FxWireR FxAsM
theorem dataAt_of {S : AS Msg} {k : Nat} {st : UInt16} {kd : UInt32} {bs : Bs} {co : Bool} (hx : S.queue[k]? = some ((st, kd, bs), co)) : (abs S).dataAt k = dataB S.other (S.base + UInt32.ofNat k) (st, kd, bs.l) := by
  unfold AS.dataAt
  show dataB S.other (S.base + UInt32.ofNat k) ((((S.queue.map fun x => (pm x.1, x.2))[k]?).map (·.1)).getD pdef) = _
  rw [List.getElem?_map, hx]; rfl
theorem cs_snoc (out : List Bs) (a : Option Addr) (c : Nat) (D : List UInt8) : Dat.cs out ++ [Value.slice a D.length c] = Dat.cs (out ++ [⟨a, c, D⟩]) := by rw [Dat.cs_app, Dat.cs_one]; rfl
set_option maxHeartbeats 2000000 in
--REG (*rostrum/assoc.Assoc).more : _ _ ⟨o{d}, rfl, ho{d}, rfl⟩ => (ac.more_fn _ _ _ (by assumption) (by assumption) (by assumption) _)
theorem more_fn (b : Nat) (p : AP) (S : AS Msg) (hsh : Short S) (hs : S.sent ≤ S.queue.length) (h16 : S.sent ≤ 16) (L : List SA) : Fn Try.prog 42 [pt b 0] (aB b p S :: aQ p S :: aD S :: L)
    (fun v L' => ∃ o : Sl Bs, v = o.v ∧ o.l.map (·.l) = (abs S).moreOut ∧ L' = SA.dat o :: aB b p S.more :: aQ p S :: aD S :: L) := by
  refine Fn.of (N := 45) Try.func42 rfl rfl ?_
  intro Xh
  refine TC.seq (TC.region ?_)
  refine TL.sg ?_
  refine TL.nil (TQ.next (TC.seq (TC.region ?_)))
  refine TL.sg ?_
  refine TL.nil (TQ.next (TC.seq (TC.block ?_)))
  refine TC.to (Ent.trans (Ent.nilOwn 23 1) Ent.rdss0) ?_
  refine TC.loopF (ι := Nat × Option Addr × Nat × List Bs) [] (fun i => S.sent ≤ i.1 ∧ i.1 ≤ max S.sent (min S.queue.length 16) ∧ i.2.2.2.map (·.l) = (List.range' S.sent (i.1 - S.sent)).map (abs S).dataAt) (fun i => [(3, some (.slice i.2.1 i.2.2.2.length i.2.2.1))]) (fun i => [aB b p { S with sent := i.1 }, SA.owns 23 1 (.slice i.2.1 i.2.2.2.length i.2.2.1) i.2.2.2.length (Dat.cs i.2.2.2), SA.rdss (i.2.2.2.flatMap Dat.g)]) (fun i => 16 - i.1) ((S.sent, none, 0, [])) (⟨Nat.le_refl _, by omega, by rw [Nat.sub_self]; rfl⟩) ⟨rfl, trivial⟩ (Pulls.cons pul (Pulls.cons pul (Pulls.cons pul Pulls.nil))) ?_
  rintro ⟨k, ga, gc, out⟩ ⟨hk1, hk2, ho⟩ F' L' rfl hL'
  simp only [List.cons_append, List.nil_append] at hL'
  subst hL'
  simp only at hk1 hk2 ho ⊢
  have hol : out.length = k - S.sent := by have := congrArg List.length ho; simpa using this
  refine TC.seq (TC.seq ?_)
  refine TC.draws 11 _ (by kernel_rfl) (by kernel_rfl) (fun _ h => h) ?_
  refine TA.tk 0 rfl rfl (Y.move rfl rfl) ?_
  refine TA.tk 1 rfl rfl (Y.nilCheck rfl rfl) ?_
  refine TA.tk 2 rfl rfl (by first | exact Y.fieldAddrJ rfl fo68_10 rfl nqq | exact Y.fieldAddr rfl fo68_10 rfl nqq) ?_
  refine TA.tk 3 rfl rfl (Y.load rfl sc3 rfl celN) ?_
  refine TA.as (vN k) (by rfl) ?_
  refine TA.tk 4 rfl rfl (Y.move rfl rfl) ?_
  refine TA.tk 5 rfl rfl (Y.nilCheck rfl rfl) ?_
  refine TA.tk 6 rfl rfl (by first | exact Y.fieldAddrJ rfl fo68_9 rfl nqq | exact Y.fieldAddr rfl fo68_9 rfl nqq) ?_
  refine TA.tk 7 rfl rfl (Y.load rfl sc64 rfl celD) ?_
  refine TA.as (.slice p.qa S.queue.length p.qc) (by rfl) ?_
  refine TA.tk 8 rfl rfl (Y.len rfl Try.underlying64 rfl) ?_
  refine TA.tk 9 rfl rfl (Y.minI (n := 16) rfl rfl rfl) ?_
  refine TA.as (vN (min S.queue.length 16)) (by (show Value.int .i64 _ = Value.int .i64 _; congr 1; omega)) ?_
  refine TA.tk 10 rfl rfl (Y.bin rfl rfl rfl (br_ltN)) ?_
  refine TA.done (by kernel_rfl) ?_
  refine TQ.next ?_
  refine TC.cond rfl (fun c0 => ?_) (fun c0 => ?_)
  · try simp only [zA, zB, zC, zD, zE, zF, zG, zH, zI, zJ] at c0
    refine TC.skip (TQ.next (TC.seq (TC.block ?_)))
    obtain ⟨⟨⟨st, kd, bs⟩, co⟩, hx, hxm⟩ := getS (l := S.queue) (i := k) (by omega)
    refine TC.region ?_
    refine TL.mv ?_
    refine TL.mv ?_
    refine TL.mv ?_
    refine TL.nc ?_
    refine TL.val rfl rfl rfl (by first | exact Y.fieldAddrJ rfl fo68_10 rfl nqq | exact Y.fieldAddr rfl fo68_10 rfl nqq) ?_
    refine TL.val rfl rfl rfl (Y.load rfl sc3 rfl celN) ?_
    refine TL.as (vN k) (by rfl) ?_
    refine TL.eff rfl rfl rfl (X.cl rfl Try.func43 rfl (h := (data_fn b p { S with sent := k } k st kd bs co hx (Nat.le_trans (hsh.queue _ hxm) (by decide)) _))) ?_
    rintro _ _ ⟨da, dc, rfl, rfl⟩
    have hD0 := dataAt_of hx
    simp only at hD0 ⊢
    generalize dataB S.other (S.base + UInt32.ofNat k) (st, kd, bs.l) = D at hD0 ⊢
    refine TL.eff rfl rfl rfl (X.lit rfl el24 rfl rfl rfl (by decide) rfl) ?_
    rintro _ _ ⟨g29, rfl, rfl⟩
    refine TL.eff rfl rfl rfl (X.appendS rfl el24 rfl pul rfl (by first | exact Src.owns Try.underlying24 inn | exact Src.rds Try.underlying24 inn | exact Src.reads (by assumption) Try.underlying24 inn) (by simp only [maxLen]; omega) (by omega)) ?_
    rintro _ _ ⟨a30, c30, rfl, rfl⟩
    refine TL.sg ?_
    refine TL.nil ?_
    refine TQ.to ((Pull.ent (A := SA.owns 5 1 (.slice da D.length dc) D.length (D.map v8)) pul).trans (Ent.freeze.trans (Ent.mkBytes rfl))) ?_
    refine TQ.to (Ent.addEl (x := (⟨da, dc, D⟩ : Bs)) (ys := out) pul pul) ?_
    rw [cs_snoc out da dc D, show out.length + 1 = (out ++ [(⟨da, dc, D⟩ : Bs)]).length by simp]
    refine TQ.block_normal (TQ.next (TC.region ?_))
    refine TL.mv ?_
    refine TL.nc ?_
    refine TL.val rfl rfl rfl (by first | exact Y.fieldAddrJ rfl fo68_10 rfl nqq | exact Y.fieldAddr rfl fo68_10 rfl nqq) ?_
    refine TL.val rfl rfl rfl (Y.load rfl sc3 rfl celN) ?_
    refine TL.as (vN k) (by rfl) ?_
    refine TL.val rfl rfl rfl (Y.bin rfl rfl rfl (br_addN (n := 1) (by omega))) ?_
    refine TL.nc ?_
    refine TL.val rfl rfl rfl (by first | exact Y.fieldAddrJ rfl fo68_10 rfl nqq | exact Y.fieldAddr rfl fo68_10 rfl nqq) ?_
    refine TL.eff0 rfl rfl (X.store (cs' := asC p { S with sent := k + 1 }) rfl (by kernel_rfl) rfl rfl rfl pul (by show 10 < 17; decide) rfl) ?_
    rintro _ _ rfl
    refine TL.nil ?_
    refine TQ.loopF ((k + 1, a30, c30, out ++ [⟨da, dc, D⟩])) (⟨by show S.sent ≤ k + 1; omega, by show k + 1 ≤ _; omega, by show (out ++ [(⟨da, dc, D⟩ : Bs)]).map (·.l) = _; rw [List.map_append, ho, show k + 1 - S.sent = (k - S.sent) + 1 by omega, List.range'_1_concat, List.map_append, show S.sent + (k - S.sent) = k by omega]; simp [hD0]⟩) (by show 16 - (k + 1) < 16 - k; omega) ⟨rfl, trivial⟩ grw ?_ ?_ ?_
    · kernel_rfl
    · rfl
    · simp only [List.cons_append, List.nil_append]
      exact ett
  · try simp only [zA, zB, zC, zD, zE, zF, zG, zH, zI, zJ] at c0
    refine TC.exit (TQ.then_exit (TQ.then_exit (TQ.block_exit (TQ.next (TC.seq (TC.seq ?_))))))
    have hkm : k = max S.sent (min S.queue.length 16) := by omega
    have hwl : S.win.length = out.length := by rw [AS.win, List.length_range', hol]; omega
    have hout : out.map (·.l) = (abs S).moreOut := by
      rw [ho, AS.moreOut]
      show _ = (List.range' S.sent (min (S.queue.map fun x => (pm x.1, x.2)).length 16 - S.sent)).map _
      rw [List.length_map, show k - S.sent = min S.queue.length 16 - S.sent by omega]
    have hmore : S.more = if 0 < out.length ∧ S.tset = false then ({ S with sent := k } : AS Msg).starts else { S with sent := k } := by
      unfold AS.more
      rw [← hkm]
      have : S.win ≠ [] ↔ 0 < out.length := by rw [← hwl, List.length_pos_iff]
      simp only [this]
    refine TC.region ?_
    refine TL.mv ?_
    refine TL.val rfl rfl rfl (Y.len rfl Try.underlying24 rfl) ?_
    refine TL.val rfl rfl rfl (Y.bin rfl rfl rfl (br_gtN (n := 0))) ?_
    refine TL.mv ?_
    refine TL.case (fun g5_3 => ?_) (fun g5_3 => ?_)
    · try simp only [zA, zB, zC, zD, zG, zH, zI, zJ] at g5_3
      refine TL.mg ?_
      refine TL.valG rfl rfl rfl (Y.nilCheck rfl rfl) ?_
      refine TL.valG rfl rfl rfl (by first | exact Y.fieldAddrJ rfl fo68_12 rfl nqq | exact Y.fieldAddr rfl fo68_12 rfl nqq) ?_
      refine TL.valG rfl rfl rfl (by first | exact Y.fieldAddrJ rfl fo66_0 rfl nqq | exact Y.fieldAddr rfl fo66_0 rfl nqq) ?_
      refine TL.valG rfl rfl rfl (Y.load rfl sc4 rfl celD) ?_
      refine TL.as (vB S.tset) (by rfl) ?_
      refine TL.valG rfl rfl rfl (Y.not rfl rfl) ?_
      refine TL.val rfl rfl rfl (Y.pick_t rfl rfl rfl) ?_
      refine TL.nil (TQ.next ?_)
      refine TC.cond rfl (fun c1 => ?_) (fun c1 => ?_)
      · try simp only [zA, zB, zC, zD, zE, zF, zG, zH, zI, zJ] at c1
        refine TC.region ?_
        refine TL.mv ?_
        refine TL.eff rfl rfl rfl (X.cl rfl Try.func46 rfl (h := (start_fn b p { S with sent := k } _))) ?_
        rintro _ _ ⟨rfl, rfl⟩
        refine TL.nil (TQ.next (TC.seq (TC.region ?_)))
        refine TL.mv ?_
        refine TL.sg ?_
        refine TL.nil (TQ.next (TC.ret ?_))
        rw [hmore]
        first
        | rw [if_pos ⟨by omega, by assumption⟩]
        | rw [if_neg (fun h => by rw [c1] at h; exact absurd h.2 (by decide))]
        | rw [if_neg (fun h => by have := h.1; omega)]
        refine TQ.retE (res1 rfl rfl) (⟨⟨ga, gc, out⟩, rfl, hout, rfl⟩) ?_
        exact (Ent.trans (Ent.mkOwn (a := ga) (l := out) pul pul rfl rfl rfl) ett)
      · try simp only [zA, zB, zC, zD, zE, zF, zG, zH, zI, zJ] at c1
        refine TC.skip (TQ.next (TC.seq (TC.region ?_)))
        refine TL.mv ?_
        refine TL.sg ?_
        refine TL.nil (TQ.next (TC.ret ?_))
        rw [hmore]
        first
        | rw [if_pos ⟨by omega, by assumption⟩]
        | rw [if_neg (fun h => by rw [c1] at h; exact absurd h.2 (by decide))]
        | rw [if_neg (fun h => by have := h.1; omega)]
        refine TQ.retE (res1 rfl rfl) (⟨⟨ga, gc, out⟩, rfl, hout, rfl⟩) ?_
        exact (Ent.trans (Ent.mkOwn (a := ga) (l := out) pul pul rfl rfl rfl) ett)
    · try simp only [zA, zB, zC, zD, zG, zH, zI, zJ] at g5_3
      refine TL.not rfl rfl rfl ?_
      refine TL.not rfl rfl rfl ?_
      refine TL.not rfl rfl rfl ?_
      refine TL.not rfl rfl rfl ?_
      refine TL.not rfl rfl rfl ?_
      refine TL.not rfl rfl rfl ?_
      refine TL.val rfl rfl rfl (Y.pick_f rfl rfl rfl) ?_
      refine TL.nil (TQ.next ?_)
      refine TC.cond_f rfl ?_
      refine TC.skip (TQ.next (TC.seq (TC.region ?_)))
      refine TL.mv ?_
      refine TL.sg ?_
      refine TL.nil (TQ.next (TC.ret ?_))
      rw [hmore]
      first
      | rw [if_pos ⟨by omega, by assumption⟩]
      | rw [if_neg (fun h => by rw [c1] at h; exact absurd h.2 (by decide))]
      | rw [if_neg (fun h => by have := h.1; omega)]
      refine TQ.retE (res1 rfl rfl) (⟨⟨ga, gc, out⟩, rfl, hout, rfl⟩) ?_
      exact (Ent.trans (Ent.mkOwn (a := ga) (l := out) pul pul rfl rfl rfl) ett)
end ac
end Go.Proofs.Ytomplpdeeomehaa


/- assoc: acked, walked. -/
namespace Go.Proofs.Ytomplpdeeomehaa
set_option linter.unusedVariables false
set_option linter.unusedSimpArgs false
open Go.RowKit
namespace ac
open wr (be16 be32)
open rd (num)
namespace FxAsQ
set_option maxRecDepth 100000
theorem el64 : Elt Try.prog 64 82 4 40 (.agg #[.int .u16 0, .int .u32 0, .slice none 0 0, .bool false]) := ⟨Try.underlying64, by kernel_rfl, rfl, by decide, by simp [Value.cells, Value.oneCell']⟩
theorem fo82_1 : Program.fieldOff Try.prog 82 1 = some 3 := by kernel_rfl
end FxAsQ
open Go.Proofs.Ytomplpdeeomehaa.ac.FxAsC Go.Proofs.Ytomplpdeeomehaa.ac.FxAsM Go.Proofs.Ytomplpdeeomehaa.ac.FxAsA Go.Proofs.Ytomplpdeeomehaa.sha.FxShaBlock FxAsQ
section
variable {P : Program} {N : Nat} {F : FE} {As : List SA} {o : Oper} {x y : Operand}
theorem Y.sliceLoK {t e sz n cap k : Nat} {a : Option Addr} {kk : IntKind} (ho : o.op = .slice t x (some y) none none) (hu : P.underlying t = some (.slice e)) (hs : (P.info? e).map (·.size) = some sz) (hx : evO F x = some (.slice a n cap)) (hy : evO F y = some (.int kk (k : Int))) (hk : k ≤ n) : Yld P N o F As (cutV a cap k n sz) := fun a' w ha hw => by
  unfold execOp; rw [ho]
  replace hx := ha.eval hx
  replace hy := ha.eval hy
  generalize a'.eval = ρ at hx hy ⊢
  obtain ⟨inf, hinf, he⟩ := Option.map_eq_some_iff.1 hs
  subst he
  simp [hx, hy, Instr.sliceAt, Instr.slice, Instr.sliceBounds, Instr.sliceBound, asIntOf, run_underlying hu, sizeOf, typeInfo, hinf, go_sem, hk, cutV]
end
theorem tl_items (m : List Itm) (k : Nat) : ([] : List Value) ++ ((Dat.cs m).drop (k * 4)).take ((m.length - k) * 4) = Dat.cs (m.drop k) := by
  rw [Dat.cs_drop, List.nil_append, List.take_of_length_le (by rw [List.length_drop, Dat.cs_len]; show m.length * 4 - k * 4 ≤ _; omega)]
  rfl
def markQ {μ : Type} (base : UInt32) (sent : Nat) (q : List (μ × Bool)) (t : UInt32) : List (μ × Bool) := if t - base < UInt32.ofNat sent then q.modify (t - base).toNat fun x => (x.1, true) else q
theorem mark_eq {μ : Type} (S : AS μ) (q : List (μ × Bool)) (t : UInt32) : ({ S with queue := q } : AS μ).mark t = { S with queue := markQ S.base S.sent q t } := by
  unfold AS.mark markQ
  split <;> rfl
theorem modify_set {α : Type} {l : List α} {k : Nat} {x : α} (f : α → α) (hx : l[k]? = some x) : l.modify k f = l.set k (f x) := by
  apply List.ext_getElem?
  intro j
  rw [List.getElem?_modify, List.getElem?_set]
  by_cases h : k = j
  · subst h
    have h2 := List.getElem?_eq_some_iff.1 hx
    simp [h2.1, h2.2]
  · simp [h]
theorem cs_mark {l : List Itm} {k : Nat} (hk : k < l.length) : (Dat.cs l).set (k * 4 + 3) (.bool true) = Dat.cs (l.modify k fun x => (x.1, true)) := by
  obtain ⟨x, hx, -⟩ := getS hk
  rw [modify_set _ hx]
  obtain ⟨⟨st, kd, bs⟩, co⟩ := x
  exact Dat.cs_setE hx (show 3 < 4 by decide) rfl
theorem markQ_map {μ : Type} (base : UInt32) (sent : Nat) (q : List (μ × Bool)) (t : UInt32) : (markQ base sent q t).map (·.1) = q.map (·.1) := by
  unfold markQ
  split
  · apply List.ext_getElem?
    intro j
    rw [List.getElem?_map, List.getElem?_modify, List.getElem?_map]
    split <;> cases q[j]? <;> rfl
  · rfl
theorem items_g (q : List Itm) : q.flatMap Dat.g = (q.map (·.1)).flatMap Dat.g := by
  rw [List.flatMap_map]
  congr 1
  funext x
  exact List.append_nil _
theorem words_s {r : List UInt8} (h : 4 ≤ r.length) : words r = num (r.take 4) :: words (r.drop 4) := by
  rcases r with _ | ⟨a, _ | ⟨b, _ | ⟨c, _ | ⟨d, r⟩⟩⟩⟩ <;> simp at h
  rfl
section
variable (b : Nat) (p : AP) (S : AS Msg) (hsh : Short S) (hs : S.sent ≤ S.queue.length) (h16 : S.sent ≤ 16) (hq32 : S.queue.length ≤ 32) (rb : Nat) (l : List UInt8) (hl4 : 4 ≤ l.length) (hlm : l.length % 4 = 0)
include hsh hs h16 hq32 hl4 hlm

set_option maxHeartbeats 4000000 in
theorem acked_left (hlf : S.left (num (l.take 4)) = true) (L : List SA) : Fn Try.prog 38 [pt b 0, pt rb 0] (rd.R rb l false :: aB b p S :: aQ p S :: aD S :: L)
    (fun v L' => ∃ (o : Sl Bs) (p' : AP), p'.sa = p.sa ∧ p'.sc = p.sc ∧ p'.mb = p.mb ∧ p'.ha = p.ha ∧ p'.hc = p.hc ∧ v = o.v ∧ o.l.map (·.l) = (abs (S.ack1 (num (l.take 4)) (words (l.drop 4)))).moreOut ∧
      L' = SA.dat o :: aB b p' (S.ack1 (num (l.take 4)) (words (l.drop 4))).more :: aQ p' (S.ack1 (num (l.take 4)) (words (l.drop 4))) :: aD (S.ack1 (num (l.take 4)) (words (l.drop 4))) :: L) := by
  obtain ⟨n, hn⟩ : ∃ n, n = num (l.take 4) - S.base + 1 := ⟨_, rfl⟩
  have hsn : (UInt32.ofNat S.sent).toNat = S.sent := UInt32.toNat_ofNat_of_lt' (by show _ < 4294967296; omega)
  have hlf0 := hlf
  rw [AS.left, ← hn, decide_eq_true_eq] at hlf
  have hnn : n.toNat ≤ S.sent := by have := UInt32.le_iff_toNat_le.1 hlf.2; omega
  refine Fn.of (N := 93) Try.func38 rfl rfl ?_
  intro Xh
  refine TC.seq (TC.region ?_)
  refine TL.sg ?_
  refine TL.nil (TQ.next (TC.seq ?_))
  refine TC.draws 9 [aB b p S, aQ p S, aD S] (by kernel_rfl) (by kernel_rfl) hld ?_
  refine TA.tk 0 rfl rfl (Y.move rfl rfl) ?_
  refine TA.tk 2 rfl rfl (Y.move rfl rfl) ?_
  refine TA.tk 3 rfl rfl (Y.nilCheck rfl rfl) ?_
  refine TA.tk 4 rfl rfl (by first | exact Y.fieldAddrJ rfl fo68_8 rfl nqq | exact Y.fieldAddr rfl fo68_8 rfl nqq) ?_
  refine TA.tk 5 rfl rfl (Y.load rfl sc22 rfl cel32) ?_
  refine TA.as (v32 S.base) (by rfl) ?_
  refine TA.one 1 (by kernel_rfl) rfl rfl rfl rfl (X.cl rfl Try.func27 rfl (h := (u32_ok rb l hl4 _))) ?_
  rintro _ _ ⟨rfl, rfl⟩
  refine ⟨(Or.inr hld), ?_⟩
  refine TA.tk 6 rfl rfl (Y.bin rfl rfl rfl (br_sub32)) ?_
  refine TA.tk 7 rfl rfl (Y.bin rfl rfl rfl (br_add32 (y := 1))) ?_
  refine TA.as (v32 n) (by (rw [hn])) ?_
  refine TA.tk 8 rfl rfl (Y.assign rfl rfl) ?_
  refine TA.done (by kernel_rfl) ?_
  refine TQ.next (TC.seq (TC.region ?_))
  refine TL.mv ?_
  refine TL.val rfl rfl rfl (Y.bin rfl rfl rfl (br_geN (n := 1))) ?_
  refine TL.is true (by (have := UInt32.le_iff_toNat_le.1 hlf.1; simpa using this)) ?_
  refine TL.mv ?_
  refine TL.mg ?_
  refine TL.mg ?_
  refine TL.valG rfl rfl rfl (Y.nilCheck rfl rfl) ?_
  refine TL.valG rfl rfl rfl (by first | exact Y.fieldAddrJ rfl fo68_10 rfl nqq | exact Y.fieldAddr rfl fo68_10 rfl nqq) ?_
  refine TL.valG rfl rfl rfl (Y.load rfl sc3 rfl celN) ?_
  refine TL.as (vN S.sent) (by rfl) ?_
  refine TL.valG rfl rfl rfl (Y.conv rfl Try.underlying3 Try.underlying22 rfl (cv_N_32)) ?_
  refine TL.as (v32 (UInt32.ofNat S.sent)) (by rfl) ?_
  refine TL.valG rfl rfl rfl (Y.bin rfl rfl rfl (br_leN)) ?_
  refine TL.is true (by (have := UInt32.le_iff_toNat_le.1 hlf.2; simpa using this)) ?_
  refine TL.val rfl rfl rfl (Y.pick_t rfl rfl rfl) ?_
  refine TL.sg ?_
  refine TL.nil (TQ.next (TC.seq (TC.seq (TC.region ?_))))
  refine TL.mv ?_
  refine TL.nil (TQ.next ?_)
  refine TC.cond_t rfl ?_
  refine TC.seq (TC.region ?_)
  refine TL.mv ?_
  refine TL.mv ?_
  refine TL.nc ?_
  refine TL.val rfl rfl rfl (by first | exact Y.fieldAddrJ rfl fo68_9 rfl nqq | exact Y.fieldAddr rfl fo68_9 rfl nqq) ?_
  refine TL.val rfl rfl rfl (Y.load rfl sc64 rfl celD) ?_
  refine TL.as (.slice p.qa S.queue.length p.qc) (by rfl) ?_
  refine TL.mv ?_
  refine TL.val rfl rfl rfl (Y.sliceLoK (sz := 4) (k := n.toNat) rfl Try.underlying64 (by kernel_rfl) rfl rfl (by omega)) ?_
  refine TL.to (Ent.nilOwn 82 4) ?_
  refine TL.eff rfl rfl rfl (X.appendS rfl el64 rfl pul rfl (Src.cut Reads.owns Try.underlying64 inn (by omega) (by omega)) (by simp only [maxLen]; omega) (by omega)) ?_
  rintro _ _ ⟨a35, c35, rfl, rfl⟩
  rw [tl_items, show 0 + (S.queue.length - n.toNat) = (S.queue.drop n.toNat).length by simp]
  refine TL.to (Ent.rdssDrop (hs := (S.queue.drop n.toNat).flatMap Dat.g) pul (fun q hq => by obtain ⟨z, hz, hq⟩ := List.mem_flatMap.1 hq; exact List.mem_flatMap.2 ⟨z, List.mem_of_mem_drop hz, hq⟩)) ?_
  refine TL.nc ?_
  refine TL.val rfl rfl rfl (by first | exact Y.fieldAddrJ rfl fo68_9 rfl nqq | exact Y.fieldAddr rfl fo68_9 rfl nqq) ?_
  refine TL.eff0 rfl rfl (X.store (cs' := asC { p with qa := a35, qc := c35 } { S with queue := S.queue.drop n.toNat }) rfl (by kernel_rfl) rfl rfl rfl pul (by show 9 < 17; decide) rfl) ?_
  rintro _ _ rfl
  refine TL.nil (TQ.next (TC.seq (TC.region ?_)))
  refine TL.mv ?_
  refine TL.nc ?_
  refine TL.val rfl rfl rfl (by first | exact Y.fieldAddrJ rfl fo68_8 rfl nqq | exact Y.fieldAddr rfl fo68_8 rfl nqq) ?_
  refine TL.val rfl rfl rfl (Y.load rfl sc22 rfl cel32) ?_
  refine TL.as (v32 S.base) (by rfl) ?_
  refine TL.mv ?_
  refine TL.val rfl rfl rfl (Y.bin rfl rfl rfl (br_add32)) ?_
  refine TL.nc ?_
  refine TL.val rfl rfl rfl (by first | exact Y.fieldAddrJ rfl fo68_8 rfl nqq | exact Y.fieldAddr rfl fo68_8 rfl nqq) ?_
  refine TL.eff0 rfl rfl (X.store (cs' := asC { p with qa := a35, qc := c35 } { S with queue := S.queue.drop n.toNat, base := S.base + n }) rfl (by kernel_rfl) rfl rfl rfl pul (by show 8 < 17; decide) rfl) ?_
  rintro _ _ rfl
  refine TL.nil (TQ.next (TC.region ?_))
  refine TL.mv ?_
  refine TL.nc ?_
  refine TL.val rfl rfl rfl (by first | exact Y.fieldAddrJ rfl fo68_10 rfl nqq | exact Y.fieldAddr rfl fo68_10 rfl nqq) ?_
  refine TL.val rfl rfl rfl (Y.load rfl sc3 rfl celN) ?_
  refine TL.as (vN S.sent) (by rfl) ?_
  refine TL.mv ?_
  refine TL.val rfl rfl rfl (Y.conv rfl Try.underlying22 Try.underlying3 rfl (cv_32_N)) ?_
  refine TL.as (vN n.toNat) (by rfl) ?_
  refine TL.val rfl rfl rfl (Y.bin rfl rfl rfl (br_subN (by omega) (by omega))) ?_
  refine TL.as (vN (S.sent - n.toNat)) (by rfl) ?_
  refine TL.nc ?_
  refine TL.val rfl rfl rfl (by first | exact Y.fieldAddrJ rfl fo68_10 rfl nqq | exact Y.fieldAddr rfl fo68_10 rfl nqq) ?_
  refine TL.eff0 rfl rfl (X.store (cs' := asC { p with qa := a35, qc := c35 } (S.cutQ n)) rfl (by kernel_rfl) rfl rfl rfl pul (by show 10 < 17; decide) rfl) ?_
  rintro _ _ rfl
  refine TL.nil ?_
  obtain ⟨S1, hS1⟩ : ∃ S1, S1 = S.cutQ n := ⟨_, rfl⟩
  have hq1 : S.queue.drop n.toNat = S1.queue := by rw [hS1]; rfl
  have hs1 : S1.sent ≤ S1.queue.length := by rw [← hq1, hS1, List.length_drop]; show S.sent - n.toNat ≤ _; omega
  have h161 : S1.sent ≤ 16 := by rw [hS1]; show S.sent - n.toNat ≤ _; omega
  have hsn1 : (UInt32.ofNat S1.sent).toNat = S1.sent := UInt32.toNat_ofNat_of_lt' (by show _ < 4294967296; omega)
  have hsh1 : Short S1 := ⟨fun x hx => hsh.queue x (List.mem_of_mem_drop (by rw [hq1]; exact hx))⟩
  rw [← hS1, hq1]
  refine TQ.next (TC.seq (TC.block ?_))
  refine TC.loopF (ι := List UInt8 × List Itm) [] (fun i => i.1.length % 4 = 0 ∧ i.2.map (·.1) = S1.queue.map (·.1) ∧ (words i.1).foldl AS.mark { S1 with queue := i.2 } = (words (l.drop 4)).foldl AS.mark S1) (fun i => []) (fun i => [rd.R rb i.1 false, SA.owns 82 4 (.slice a35 S1.queue.length c35) S1.queue.length (Dat.cs i.2)]) (fun i => i.1.length) ((l.drop 4, S1.queue)) (⟨by show (l.drop 4).length % 4 = 0; rw [List.length_drop]; omega, rfl, rfl⟩) trivial (Pulls.cons pul (Pulls.cons pul Pulls.nil)) ?_
  rintro ⟨r, q⟩ ⟨hr, hq, hf⟩ F' L' rfl hL'
  simp only [List.cons_append, List.nil_append] at hL'
  subst hL'
  simp only at hr hq hf ⊢
  have hql : q.length = S1.queue.length := by simpa using congrArg List.length hq
  refine TC.seq (TC.seq (TC.region ?_))
  refine TL.mv ?_
  refine TL.eff rfl rfl rfl (X.cl rfl Try.func30 rfl (h := (rd.Left_fn _ _ _ _))) ?_
  rintro _ _ ⟨rfl, rfl⟩
  refine TL.val rfl rfl rfl (Y.bin rfl rfl rfl (br_gtN (n := 0))) ?_
  refine TL.nil (TQ.next ?_)
  refine TC.cond rfl (fun c1 => ?_) (fun c1 => ?_)
  · try simp only [zA, zB, zC, zD, zE, zF, zG, zH, zI, zJ] at c1
    refine TC.skip (TQ.next (TC.block (TC.seq ?_)))
    have hr4 : 4 ≤ r.length := by omega
    obtain ⟨k, hk⟩ : ∃ k, k = num (r.take 4) - S1.base := ⟨_, rfl⟩
    refine TC.draws 8 [SA.blk b (asC ({ p with qa := a35, qc := c35 }) S1) 68, SA.owns 82 4 (.slice a35 S1.queue.length c35) S1.queue.length (Dat.cs q)] (by kernel_rfl) (by kernel_rfl) hld ?_
    refine TA.tk 0 rfl rfl (Y.move rfl rfl) ?_
    refine TA.tk 2 rfl rfl (Y.move rfl rfl) ?_
    refine TA.tk 3 rfl rfl (Y.nilCheck rfl rfl) ?_
    refine TA.tk 4 rfl rfl (by first | exact Y.fieldAddrJ rfl fo68_8 rfl nqq | exact Y.fieldAddr rfl fo68_8 rfl nqq) ?_
    refine TA.tk 5 rfl rfl (Y.load rfl sc22 rfl cel32) ?_
    refine TA.as (v32 S1.base) (by rfl) ?_
    refine TA.one 1 (by kernel_rfl) rfl rfl rfl rfl (X.cl rfl Try.func27 rfl (h := (u32_ok rb r hr4 _))) ?_
    rintro _ _ ⟨rfl, rfl⟩
    refine ⟨(Or.inr hld), ?_⟩
    refine TA.tk 6 rfl rfl (Y.bin rfl rfl rfl (br_sub32)) ?_
    refine TA.as (v32 k) (by (rw [hk])) ?_
    refine TA.tk 7 rfl rfl (Y.assign rfl rfl) ?_
    refine TA.done (by kernel_rfl) ?_
    refine TQ.next (TC.seq (TC.region ?_))
    refine TL.mv ?_
    refine TL.mv ?_
    refine TL.nc ?_
    refine TL.val rfl rfl rfl (by first | exact Y.fieldAddrJ rfl fo68_10 rfl nqq | exact Y.fieldAddr rfl fo68_10 rfl nqq) ?_
    refine TL.val rfl rfl rfl (Y.load rfl sc3 rfl celN) ?_
    refine TL.as (vN S1.sent) (by rfl) ?_
    refine TL.val rfl rfl rfl (Y.conv rfl Try.underlying3 Try.underlying22 rfl (cv_N_32)) ?_
    refine TL.as (v32 (UInt32.ofNat S1.sent)) (by rfl) ?_
    refine TL.val rfl rfl rfl (Y.bin rfl rfl rfl (br_ltN)) ?_
    refine TL.nil (TQ.next ?_)
    refine TC.cond rfl (fun c2 => ?_) (fun c2 => ?_)
    · try simp only [zA, zB, zC, zD, zE, zF, zG, zH, zI, zJ] at c2
      have hks : k.toNat < S1.sent := by rw [hsn1] at c2; exact c2
      have hmq : markQ S1.base S1.sent q (num (r.take 4)) = q.modify k.toNat fun x => (x.1, true) := by unfold markQ; rw [← hk, if_pos (UInt32.lt_iff_toNat_lt.2 (by rw [hsn1]; exact hks))]
      refine TC.know (owns_some (a := a35) (n := S1.queue.length) inn (by omega)) ?_
      rintro ⟨g, off, hqa⟩
      rw [hqa]
      refine TC.region ?_
      refine TL.mv ?_
      refine TL.nc ?_
      refine TL.val rfl rfl rfl (by first | exact Y.fieldAddrJ rfl fo68_9 rfl nqq | exact Y.fieldAddr rfl fo68_9 rfl nqq) ?_
      refine TL.val rfl rfl rfl (Y.load rfl sc64 rfl celD) ?_
      refine TL.as (.slice (some ⟨g, off, none⟩) S1.queue.length c35) (by (first | rfl | (rw [← hqa]; rfl))) ?_
      refine TL.mv ?_
      refine TL.val rfl rfl rfl (by first | exact Y.indexSlB rfl sl64 rfl rfl (by omega) nqq | exact Y.indexSl rfl sl64 rfl rfl (by omega) nqq) ?_
      refine TL.val rfl rfl rfl (by first | exact Y.fieldAddrJ rfl fo82_1 rfl nqq | exact Y.fieldAddr rfl fo82_1 rfl nqq) ?_
      refine TL.eff0 rfl rfl (X.storeOwn (off := off) (j := k.toNat * 4 + 3) (cs' := Dat.cs (q.modify k.toNat fun x => (x.1, true))) rfl (by kernel_rfl) rfl (by omega) rfl rfl pul (by omega) (cs_mark (by omega))) ?_
      rintro _ _ rfl
      refine TL.nil ?_
      rw [← hqa, ← hmq]
      refine TQ.block_normal ?_
      refine TQ.loopF ((r.drop 4, markQ S1.base S1.sent q (num (r.take 4)))) (⟨by show (r.drop 4).length % 4 = 0; rw [List.length_drop]; omega, by show (markQ _ _ _ _).map _ = _; rw [markQ_map, hq], by show (words (r.drop 4)).foldl AS.mark _ = _; rw [← hf, words_s hr4, List.foldl_cons, mark_eq]⟩) (by show (r.drop 4).length < r.length; rw [List.length_drop]; omega) trivial grw ?_ ?_ ?_
      · kernel_rfl
      · rfl
      · simp only [List.cons_append, List.nil_append]
        exact ett
    · try simp only [zA, zB, zC, zD, zE, zF, zG, zH, zI, zJ] at c2
      have hmq : markQ S1.base S1.sent q (num (r.take 4)) = q := by unfold markQ; rw [← hk, if_neg (fun h => by have := UInt32.lt_iff_toNat_lt.1 h; omega)]
      rw [show Dat.cs q = Dat.cs (markQ S1.base S1.sent q (num (r.take 4))) by rw [hmq]]
      refine TC.skip (TQ.block_normal ?_)
      refine TQ.loopF ((r.drop 4, markQ S1.base S1.sent q (num (r.take 4)))) (⟨by show (r.drop 4).length % 4 = 0; rw [List.length_drop]; omega, by show (markQ _ _ _ _).map _ = _; rw [markQ_map, hq], by show (words (r.drop 4)).foldl AS.mark _ = _; rw [← hf, words_s hr4, List.foldl_cons, mark_eq]⟩) (by show (r.drop 4).length < r.length; rw [List.length_drop]; omega) trivial grw ?_ ?_ ?_
      · kernel_rfl
      · rfl
      · simp only [List.cons_append, List.nil_append]
        exact ett
  · try simp only [zA, zB, zC, zD, zE, zF, zG, zH, zI, zJ] at c1
    obtain rfl : r = [] := List.length_eq_zero_iff.1 (by omega)
    obtain ⟨T, hT⟩ : ∃ T : AS Msg, T = { S1 with queue := q } := ⟨_, rfl⟩
    have hTa : asC ({ p with qa := a35, qc := c35 }) S1 = asC ({ p with qa := a35, qc := c35 }) T := by rw [hT]; simp only [asC, hql]
    have hTq : q = T.queue := by rw [hT]
    have hTg : S1.queue.flatMap Dat.g = T.queue.flatMap Dat.g := by rw [← hTq, items_g, items_g, hq]
    have hTs : Short T := ⟨fun x hx => by
        rw [← hTq] at hx
        obtain ⟨y, hy, hyx⟩ := List.mem_map.1 (hq ▸ List.mem_map_of_mem hx : x.1 ∈ S1.queue.map (·.1))
        rw [← hyx]; exact hsh1.queue y hy⟩
    have hTl : T.sent ≤ T.queue.length := by rw [← hTq, hql, hT]; exact hs1
    have hT16 : T.sent ≤ 16 := by rw [hT]; exact h161
    have hfT : (words (l.drop 4)).foldl AS.mark S1 = T := by rw [← hf, hT]; rfl
    rw [hTa, hTg, ← hql, hTq]
    refine TC.exit (TQ.then_exit (TQ.then_exit (TQ.block_exit (TQ.next (TC.seq (TC.seq (TC.region ?_)))))))
    refine TL.mv ?_
    refine TL.nil (TQ.next ?_)
    refine TC.cond_t rfl ?_
    refine TC.seq (TC.region ?_)
    refine TL.mv ?_
    refine TL.eff rfl rfl rfl (X.cl rfl Try.func46 rfl (h := (start_fn b { p with qa := a35, qc := c35 } T _))) ?_
    rintro _ _ ⟨rfl, rfl⟩
    refine TL.nil (TQ.next (TC.region ?_))
    refine TL.mv ?_
    refine TL.mv ?_
    refine TL.nc ?_
    refine TL.val rfl rfl rfl (by first | exact Y.fieldAddrJ rfl fo68_10 rfl nqq | exact Y.fieldAddr rfl fo68_10 rfl nqq) ?_
    refine TL.val rfl rfl rfl (Y.load rfl sc3 rfl celN) ?_
    refine TL.as (vN T.sent) (by rfl) ?_
    refine TL.val rfl rfl rfl (Y.bin rfl rfl rfl (br_gtN (n := 0))) ?_
    refine TL.nc ?_
    refine TL.val rfl rfl rfl (by first | exact Y.fieldAddrJ rfl fo68_12 rfl nqq | exact Y.fieldAddr rfl fo68_12 rfl nqq) ?_
    refine TL.val rfl rfl rfl (by first | exact Y.fieldAddrJ rfl fo66_0 rfl nqq | exact Y.fieldAddr rfl fo66_0 rfl nqq) ?_
    refine TL.eff0 rfl rfl (X.store (cs' := asC { p with qa := a35, qc := c35 } { T.starts with tset := decide (0 < T.sent) }) rfl (by kernel_rfl) rfl rfl rfl pul (by show 12 < 17; decide) rfl) ?_
    rintro _ _ rfl
    refine TL.nil (TQ.next (TC.seq ?_))
    obtain ⟨S2, hS2⟩ : ∃ S2 : AS Msg, S2 = { T.starts with tset := decide (0 < T.sent) } := ⟨_, rfl⟩
    have hq2 : T.queue = S2.queue := by rw [hS2]; rfl
    have hack : S.ack1 (num (l.take 4)) (words (l.drop 4)) = S2 := by rw [AS.ack1, if_pos hlf0, AS.drop1, if_pos hlf0, ← hn, ← hS1, hfT, hS2]
    rw [← hS2, hq2, hack]
    refine TC.region ?_
    refine TL.mv ?_
    refine TL.eff rfl rfl rfl (X.cl rfl Try.func42 rfl (h := (more_fn b { p with qa := a35, qc := c35 } S2 ⟨fun x hx => hTs.queue x (by rw [hq2]; exact hx)⟩ (by rw [← hq2, hS2]; exact hTl) (by rw [hS2]; exact hT16) _))) ?_
    rintro _ _ ⟨o, rfl, ho, rfl⟩
    refine TL.sg ?_
    refine TL.nil (TQ.next (TC.ret ?_))
    refine TQ.retE (res1 rfl rfl) (⟨o, { p with qa := a35, qc := c35 }, rfl, rfl, rfl, rfl, rfl, rfl, ho, rfl⟩) ?_
    exact ett

omit hq32 in
set_option maxHeartbeats 4000000 in
theorem acked_not (hlf : S.left (num (l.take 4)) = false) (L : List SA) : Fn Try.prog 38 [pt b 0, pt rb 0] (rd.R rb l false :: aB b p S :: aQ p S :: aD S :: L)
    (fun v L' => ∃ (o : Sl Bs) (p' : AP), p'.sa = p.sa ∧ p'.sc = p.sc ∧ p'.mb = p.mb ∧ p'.ha = p.ha ∧ p'.hc = p.hc ∧ v = o.v ∧ o.l.map (·.l) = (abs (S.ack1 (num (l.take 4)) (words (l.drop 4)))).moreOut ∧
      L' = SA.dat o :: aB b p' (S.ack1 (num (l.take 4)) (words (l.drop 4))).more :: aQ p' (S.ack1 (num (l.take 4)) (words (l.drop 4))) :: aD (S.ack1 (num (l.take 4)) (words (l.drop 4))) :: L) := by
  obtain ⟨n, hn⟩ : ∃ n, n = num (l.take 4) - S.base + 1 := ⟨_, rfl⟩
  have hsn : (UInt32.ofNat S.sent).toNat = S.sent := UInt32.toNat_ofNat_of_lt' (by show _ < 4294967296; omega)
  have hlf0 := hlf
  rw [AS.left, ← hn, decide_eq_false_iff_not] at hlf
  refine Fn.of (N := 93) Try.func38 rfl rfl ?_
  intro Xh
  refine TC.seq (TC.region ?_)
  refine TL.sg ?_
  refine TL.nil (TQ.next (TC.seq ?_))
  refine TC.draws 9 [aB b p S, aQ p S, aD S] (by kernel_rfl) (by kernel_rfl) hld ?_
  refine TA.tk 0 rfl rfl (Y.move rfl rfl) ?_
  refine TA.tk 2 rfl rfl (Y.move rfl rfl) ?_
  refine TA.tk 3 rfl rfl (Y.nilCheck rfl rfl) ?_
  refine TA.tk 4 rfl rfl (by first | exact Y.fieldAddrJ rfl fo68_8 rfl nqq | exact Y.fieldAddr rfl fo68_8 rfl nqq) ?_
  refine TA.tk 5 rfl rfl (Y.load rfl sc22 rfl cel32) ?_
  refine TA.as (v32 S.base) (by rfl) ?_
  refine TA.one 1 (by kernel_rfl) rfl rfl rfl rfl (X.cl rfl Try.func27 rfl (h := (u32_ok rb l hl4 _))) ?_
  rintro _ _ ⟨rfl, rfl⟩
  refine ⟨(Or.inr hld), ?_⟩
  refine TA.tk 6 rfl rfl (Y.bin rfl rfl rfl (br_sub32)) ?_
  refine TA.tk 7 rfl rfl (Y.bin rfl rfl rfl (br_add32 (y := 1))) ?_
  refine TA.as (v32 n) (by (rw [hn])) ?_
  refine TA.tk 8 rfl rfl (Y.assign rfl rfl) ?_
  refine TA.done (by kernel_rfl) ?_
  refine TQ.next (TC.seq (TC.region ?_))
  refine TL.mv ?_
  refine TL.val rfl rfl rfl (Y.bin rfl rfl rfl (br_geN (n := 1))) ?_
  refine TL.mv ?_
  refine TL.case (fun g2_2 => ?_) (fun g2_2 => ?_)
  · try simp only [zA, zB, zC, zD, zG, zH, zI, zJ] at g2_2
    refine TL.mg ?_
    refine TL.mg ?_
    refine TL.valG rfl rfl rfl (Y.nilCheck rfl rfl) ?_
    refine TL.valG rfl rfl rfl (by first | exact Y.fieldAddrJ rfl fo68_10 rfl nqq | exact Y.fieldAddr rfl fo68_10 rfl nqq) ?_
    refine TL.valG rfl rfl rfl (Y.load rfl sc3 rfl celN) ?_
    refine TL.as (vN S.sent) (by rfl) ?_
    refine TL.valG rfl rfl rfl (Y.conv rfl Try.underlying3 Try.underlying22 rfl (cv_N_32)) ?_
    refine TL.as (v32 (UInt32.ofNat S.sent)) (by rfl) ?_
    refine TL.valG rfl rfl rfl (Y.bin rfl rfl rfl (br_leN)) ?_
    refine TL.is false (by (rw [decide_eq_false_iff_not]; exact fun h => hlf ⟨UInt32.le_iff_toNat_le.2 (by simpa using g2_2), UInt32.le_iff_toNat_le.2 h⟩)) ?_
    refine TL.val rfl rfl rfl (Y.pick_t rfl rfl rfl) ?_
    refine TL.sg ?_
    refine TL.nil (TQ.next (TC.seq (TC.seq (TC.region ?_))))
    refine TL.mv ?_
    refine TL.nil (TQ.next ?_)
    refine TC.cond_f rfl ?_
    refine TC.skip (TQ.next (TC.seq (TC.block ?_)))
    obtain ⟨S1, hS1⟩ : ∃ S1, S1 = S := ⟨_, rfl⟩
    have hsn1 := hsn
    have hsh1 := hsh
    have hs1 := hs
    have h161 := h16
    rw [← hS1] at hsn1 hsh1 hs1 h161
    rw [show aB b p S = SA.blk b (asC p S1) 68 by rw [hS1], show aQ p S = SA.owns 82 4 (.slice p.qa S1.queue.length p.qc) S1.queue.length (Dat.cs S1.queue) by rw [hS1], show aD S = SA.rdss (S1.queue.flatMap Dat.g) by rw [hS1]]
    refine TC.loopF (ι := List UInt8 × List Itm) [] (fun i => i.1.length % 4 = 0 ∧ i.2.map (·.1) = S1.queue.map (·.1) ∧ (words i.1).foldl AS.mark { S1 with queue := i.2 } = (words (l.drop 4)).foldl AS.mark S1) (fun i => []) (fun i => [rd.R rb i.1 false, SA.owns 82 4 (.slice p.qa S1.queue.length p.qc) S1.queue.length (Dat.cs i.2)]) (fun i => i.1.length) ((l.drop 4, S1.queue)) (⟨by show (l.drop 4).length % 4 = 0; rw [List.length_drop]; omega, rfl, rfl⟩) trivial (Pulls.cons pul (Pulls.cons pul Pulls.nil)) ?_
    rintro ⟨r, q⟩ ⟨hr, hq, hf⟩ F' L' rfl hL'
    simp only [List.cons_append, List.nil_append] at hL'
    subst hL'
    simp only at hr hq hf ⊢
    have hql : q.length = S1.queue.length := by simpa using congrArg List.length hq
    refine TC.seq (TC.seq (TC.region ?_))
    refine TL.mv ?_
    refine TL.eff rfl rfl rfl (X.cl rfl Try.func30 rfl (h := (rd.Left_fn _ _ _ _))) ?_
    rintro _ _ ⟨rfl, rfl⟩
    refine TL.val rfl rfl rfl (Y.bin rfl rfl rfl (br_gtN (n := 0))) ?_
    refine TL.nil (TQ.next ?_)
    refine TC.cond rfl (fun c1 => ?_) (fun c1 => ?_)
    · try simp only [zA, zB, zC, zD, zE, zF, zG, zH, zI, zJ] at c1
      refine TC.skip (TQ.next (TC.block (TC.seq ?_)))
      have hr4 : 4 ≤ r.length := by omega
      obtain ⟨k, hk⟩ : ∃ k, k = num (r.take 4) - S1.base := ⟨_, rfl⟩
      refine TC.draws 8 [SA.blk b (asC (p) S1) 68, SA.owns 82 4 (.slice p.qa S1.queue.length p.qc) S1.queue.length (Dat.cs q)] (by kernel_rfl) (by kernel_rfl) hld ?_
      refine TA.tk 0 rfl rfl (Y.move rfl rfl) ?_
      refine TA.tk 2 rfl rfl (Y.move rfl rfl) ?_
      refine TA.tk 3 rfl rfl (Y.nilCheck rfl rfl) ?_
      refine TA.tk 4 rfl rfl (by first | exact Y.fieldAddrJ rfl fo68_8 rfl nqq | exact Y.fieldAddr rfl fo68_8 rfl nqq) ?_
      refine TA.tk 5 rfl rfl (Y.load rfl sc22 rfl cel32) ?_
      refine TA.as (v32 S1.base) (by rfl) ?_
      refine TA.one 1 (by kernel_rfl) rfl rfl rfl rfl (X.cl rfl Try.func27 rfl (h := (u32_ok rb r hr4 _))) ?_
      rintro _ _ ⟨rfl, rfl⟩
      refine ⟨(Or.inr hld), ?_⟩
      refine TA.tk 6 rfl rfl (Y.bin rfl rfl rfl (br_sub32)) ?_
      refine TA.as (v32 k) (by (rw [hk])) ?_
      refine TA.tk 7 rfl rfl (Y.assign rfl rfl) ?_
      refine TA.done (by kernel_rfl) ?_
      refine TQ.next (TC.seq (TC.region ?_))
      refine TL.mv ?_
      refine TL.mv ?_
      refine TL.nc ?_
      refine TL.val rfl rfl rfl (by first | exact Y.fieldAddrJ rfl fo68_10 rfl nqq | exact Y.fieldAddr rfl fo68_10 rfl nqq) ?_
      refine TL.val rfl rfl rfl (Y.load rfl sc3 rfl celN) ?_
      refine TL.as (vN S1.sent) (by rfl) ?_
      refine TL.val rfl rfl rfl (Y.conv rfl Try.underlying3 Try.underlying22 rfl (cv_N_32)) ?_
      refine TL.as (v32 (UInt32.ofNat S1.sent)) (by rfl) ?_
      refine TL.val rfl rfl rfl (Y.bin rfl rfl rfl (br_ltN)) ?_
      refine TL.nil (TQ.next ?_)
      refine TC.cond rfl (fun c2 => ?_) (fun c2 => ?_)
      · try simp only [zA, zB, zC, zD, zE, zF, zG, zH, zI, zJ] at c2
        have hks : k.toNat < S1.sent := by rw [hsn1] at c2; exact c2
        have hmq : markQ S1.base S1.sent q (num (r.take 4)) = q.modify k.toNat fun x => (x.1, true) := by unfold markQ; rw [← hk, if_pos (UInt32.lt_iff_toNat_lt.2 (by rw [hsn1]; exact hks))]
        refine TC.know (owns_some (a := p.qa) (n := S1.queue.length) inn (by omega)) ?_
        rintro ⟨g, off, hqa⟩
        rw [hqa]
        refine TC.region ?_
        refine TL.mv ?_
        refine TL.nc ?_
        refine TL.val rfl rfl rfl (by first | exact Y.fieldAddrJ rfl fo68_9 rfl nqq | exact Y.fieldAddr rfl fo68_9 rfl nqq) ?_
        refine TL.val rfl rfl rfl (Y.load rfl sc64 rfl celD) ?_
        refine TL.as (.slice (some ⟨g, off, none⟩) S1.queue.length p.qc) (by (first | rfl | (rw [← hqa]; rfl))) ?_
        refine TL.mv ?_
        refine TL.val rfl rfl rfl (by first | exact Y.indexSlB rfl sl64 rfl rfl (by omega) nqq | exact Y.indexSl rfl sl64 rfl rfl (by omega) nqq) ?_
        refine TL.val rfl rfl rfl (by first | exact Y.fieldAddrJ rfl fo82_1 rfl nqq | exact Y.fieldAddr rfl fo82_1 rfl nqq) ?_
        refine TL.eff0 rfl rfl (X.storeOwn (off := off) (j := k.toNat * 4 + 3) (cs' := Dat.cs (q.modify k.toNat fun x => (x.1, true))) rfl (by kernel_rfl) rfl (by omega) rfl rfl pul (by omega) (cs_mark (by omega))) ?_
        rintro _ _ rfl
        refine TL.nil ?_
        rw [← hqa, ← hmq]
        refine TQ.block_normal ?_
        refine TQ.loopF ((r.drop 4, markQ S1.base S1.sent q (num (r.take 4)))) (⟨by show (r.drop 4).length % 4 = 0; rw [List.length_drop]; omega, by show (markQ _ _ _ _).map _ = _; rw [markQ_map, hq], by show (words (r.drop 4)).foldl AS.mark _ = _; rw [← hf, words_s hr4, List.foldl_cons, mark_eq]⟩) (by show (r.drop 4).length < r.length; rw [List.length_drop]; omega) trivial grw ?_ ?_ ?_
        · kernel_rfl
        · rfl
        · simp only [List.cons_append, List.nil_append]
          exact ett
      · try simp only [zA, zB, zC, zD, zE, zF, zG, zH, zI, zJ] at c2
        have hmq : markQ S1.base S1.sent q (num (r.take 4)) = q := by unfold markQ; rw [← hk, if_neg (fun h => by have := UInt32.lt_iff_toNat_lt.1 h; omega)]
        rw [show Dat.cs q = Dat.cs (markQ S1.base S1.sent q (num (r.take 4))) by rw [hmq]]
        refine TC.skip (TQ.block_normal ?_)
        refine TQ.loopF ((r.drop 4, markQ S1.base S1.sent q (num (r.take 4)))) (⟨by show (r.drop 4).length % 4 = 0; rw [List.length_drop]; omega, by show (markQ _ _ _ _).map _ = _; rw [markQ_map, hq], by show (words (r.drop 4)).foldl AS.mark _ = _; rw [← hf, words_s hr4, List.foldl_cons, mark_eq]⟩) (by show (r.drop 4).length < r.length; rw [List.length_drop]; omega) trivial grw ?_ ?_ ?_
        · kernel_rfl
        · rfl
        · simp only [List.cons_append, List.nil_append]
          exact ett
    · try simp only [zA, zB, zC, zD, zE, zF, zG, zH, zI, zJ] at c1
      obtain rfl : r = [] := List.length_eq_zero_iff.1 (by omega)
      obtain ⟨T, hT⟩ : ∃ T : AS Msg, T = { S1 with queue := q } := ⟨_, rfl⟩
      have hTa : asC (p) S1 = asC (p) T := by rw [hT]; simp only [asC, hql]
      have hTq : q = T.queue := by rw [hT]
      have hTg : S1.queue.flatMap Dat.g = T.queue.flatMap Dat.g := by rw [← hTq, items_g, items_g, hq]
      have hTs : Short T := ⟨fun x hx => by
          rw [← hTq] at hx
          obtain ⟨y, hy, hyx⟩ := List.mem_map.1 (hq ▸ List.mem_map_of_mem hx : x.1 ∈ S1.queue.map (·.1))
          rw [← hyx]; exact hsh1.queue y hy⟩
      have hTl : T.sent ≤ T.queue.length := by rw [← hTq, hql, hT]; exact hs1
      have hT16 : T.sent ≤ 16 := by rw [hT]; exact h161
      have hfT : (words (l.drop 4)).foldl AS.mark S1 = T := by rw [← hf, hT]; rfl
      rw [hTa, hTg, ← hql, hTq]
      have hack : S.ack1 (num (l.take 4)) (words (l.drop 4)) = T := by rw [AS.ack1, if_neg (by rw [hlf0]; decide), AS.drop1, if_neg (by rw [hlf0]; decide), ← hS1, hfT]
      rw [hack]
      refine TC.exit (TQ.then_exit (TQ.then_exit (TQ.block_exit (TQ.next (TC.seq (TC.seq (TC.region ?_)))))))
      refine TL.mv ?_
      refine TL.nil (TQ.next ?_)
      refine TC.cond_f rfl ?_
      refine TC.skip (TQ.next (TC.seq (TC.region ?_)))
      refine TL.mv ?_
      refine TL.eff rfl rfl rfl (X.cl rfl Try.func42 rfl (h := (more_fn b p T hTs hTl hT16 _))) ?_
      rintro _ _ ⟨o, rfl, ho, rfl⟩
      refine TL.sg ?_
      refine TL.nil (TQ.next (TC.ret ?_))
      refine TQ.retE (res1 rfl rfl) (⟨o, p, rfl, rfl, rfl, rfl, rfl, rfl, ho, rfl⟩) ?_
      exact ett
  · try simp only [zA, zB, zC, zD, zG, zH, zI, zJ] at g2_2
    refine TL.not rfl rfl rfl ?_
    refine TL.not rfl rfl rfl ?_
    refine TL.not rfl rfl rfl ?_
    refine TL.not rfl rfl rfl ?_
    refine TL.not rfl rfl rfl ?_
    refine TL.not rfl rfl rfl ?_
    refine TL.not rfl rfl rfl ?_
    refine TL.val rfl rfl rfl (Y.pick_f rfl rfl rfl) ?_
    refine TL.sg ?_
    refine TL.nil (TQ.next (TC.seq (TC.seq (TC.region ?_))))
    refine TL.mv ?_
    refine TL.nil (TQ.next ?_)
    refine TC.cond_f rfl ?_
    refine TC.skip (TQ.next (TC.seq (TC.block ?_)))
    obtain ⟨S1, hS1⟩ : ∃ S1, S1 = S := ⟨_, rfl⟩
    have hsn1 := hsn
    have hsh1 := hsh
    have hs1 := hs
    have h161 := h16
    rw [← hS1] at hsn1 hsh1 hs1 h161
    rw [show aB b p S = SA.blk b (asC p S1) 68 by rw [hS1], show aQ p S = SA.owns 82 4 (.slice p.qa S1.queue.length p.qc) S1.queue.length (Dat.cs S1.queue) by rw [hS1], show aD S = SA.rdss (S1.queue.flatMap Dat.g) by rw [hS1]]
    refine TC.loopF (ι := List UInt8 × List Itm) [] (fun i => i.1.length % 4 = 0 ∧ i.2.map (·.1) = S1.queue.map (·.1) ∧ (words i.1).foldl AS.mark { S1 with queue := i.2 } = (words (l.drop 4)).foldl AS.mark S1) (fun i => []) (fun i => [rd.R rb i.1 false, SA.owns 82 4 (.slice p.qa S1.queue.length p.qc) S1.queue.length (Dat.cs i.2)]) (fun i => i.1.length) ((l.drop 4, S1.queue)) (⟨by show (l.drop 4).length % 4 = 0; rw [List.length_drop]; omega, rfl, rfl⟩) trivial (Pulls.cons pul (Pulls.cons pul Pulls.nil)) ?_
    rintro ⟨r, q⟩ ⟨hr, hq, hf⟩ F' L' rfl hL'
    simp only [List.cons_append, List.nil_append] at hL'
    subst hL'
    simp only at hr hq hf ⊢
    have hql : q.length = S1.queue.length := by simpa using congrArg List.length hq
    refine TC.seq (TC.seq (TC.region ?_))
    refine TL.mv ?_
    refine TL.eff rfl rfl rfl (X.cl rfl Try.func30 rfl (h := (rd.Left_fn _ _ _ _))) ?_
    rintro _ _ ⟨rfl, rfl⟩
    refine TL.val rfl rfl rfl (Y.bin rfl rfl rfl (br_gtN (n := 0))) ?_
    refine TL.nil (TQ.next ?_)
    refine TC.cond rfl (fun c1 => ?_) (fun c1 => ?_)
    · try simp only [zA, zB, zC, zD, zE, zF, zG, zH, zI, zJ] at c1
      refine TC.skip (TQ.next (TC.block (TC.seq ?_)))
      have hr4 : 4 ≤ r.length := by omega
      obtain ⟨k, hk⟩ : ∃ k, k = num (r.take 4) - S1.base := ⟨_, rfl⟩
      refine TC.draws 8 [SA.blk b (asC (p) S1) 68, SA.owns 82 4 (.slice p.qa S1.queue.length p.qc) S1.queue.length (Dat.cs q)] (by kernel_rfl) (by kernel_rfl) hld ?_
      refine TA.tk 0 rfl rfl (Y.move rfl rfl) ?_
      refine TA.tk 2 rfl rfl (Y.move rfl rfl) ?_
      refine TA.tk 3 rfl rfl (Y.nilCheck rfl rfl) ?_
      refine TA.tk 4 rfl rfl (by first | exact Y.fieldAddrJ rfl fo68_8 rfl nqq | exact Y.fieldAddr rfl fo68_8 rfl nqq) ?_
      refine TA.tk 5 rfl rfl (Y.load rfl sc22 rfl cel32) ?_
      refine TA.as (v32 S1.base) (by rfl) ?_
      refine TA.one 1 (by kernel_rfl) rfl rfl rfl rfl (X.cl rfl Try.func27 rfl (h := (u32_ok rb r hr4 _))) ?_
      rintro _ _ ⟨rfl, rfl⟩
      refine ⟨(Or.inr hld), ?_⟩
      refine TA.tk 6 rfl rfl (Y.bin rfl rfl rfl (br_sub32)) ?_
      refine TA.as (v32 k) (by (rw [hk])) ?_
      refine TA.tk 7 rfl rfl (Y.assign rfl rfl) ?_
      refine TA.done (by kernel_rfl) ?_
      refine TQ.next (TC.seq (TC.region ?_))
      refine TL.mv ?_
      refine TL.mv ?_
      refine TL.nc ?_
      refine TL.val rfl rfl rfl (by first | exact Y.fieldAddrJ rfl fo68_10 rfl nqq | exact Y.fieldAddr rfl fo68_10 rfl nqq) ?_
      refine TL.val rfl rfl rfl (Y.load rfl sc3 rfl celN) ?_
      refine TL.as (vN S1.sent) (by rfl) ?_
      refine TL.val rfl rfl rfl (Y.conv rfl Try.underlying3 Try.underlying22 rfl (cv_N_32)) ?_
      refine TL.as (v32 (UInt32.ofNat S1.sent)) (by rfl) ?_
      refine TL.val rfl rfl rfl (Y.bin rfl rfl rfl (br_ltN)) ?_
      refine TL.nil (TQ.next ?_)
      refine TC.cond rfl (fun c2 => ?_) (fun c2 => ?_)
      · try simp only [zA, zB, zC, zD, zE, zF, zG, zH, zI, zJ] at c2
        have hks : k.toNat < S1.sent := by rw [hsn1] at c2; exact c2
        have hmq : markQ S1.base S1.sent q (num (r.take 4)) = q.modify k.toNat fun x => (x.1, true) := by unfold markQ; rw [← hk, if_pos (UInt32.lt_iff_toNat_lt.2 (by rw [hsn1]; exact hks))]
        refine TC.know (owns_some (a := p.qa) (n := S1.queue.length) inn (by omega)) ?_
        rintro ⟨g, off, hqa⟩
        rw [hqa]
        refine TC.region ?_
        refine TL.mv ?_
        refine TL.nc ?_
        refine TL.val rfl rfl rfl (by first | exact Y.fieldAddrJ rfl fo68_9 rfl nqq | exact Y.fieldAddr rfl fo68_9 rfl nqq) ?_
        refine TL.val rfl rfl rfl (Y.load rfl sc64 rfl celD) ?_
        refine TL.as (.slice (some ⟨g, off, none⟩) S1.queue.length p.qc) (by (first | rfl | (rw [← hqa]; rfl))) ?_
        refine TL.mv ?_
        refine TL.val rfl rfl rfl (by first | exact Y.indexSlB rfl sl64 rfl rfl (by omega) nqq | exact Y.indexSl rfl sl64 rfl rfl (by omega) nqq) ?_
        refine TL.val rfl rfl rfl (by first | exact Y.fieldAddrJ rfl fo82_1 rfl nqq | exact Y.fieldAddr rfl fo82_1 rfl nqq) ?_
        refine TL.eff0 rfl rfl (X.storeOwn (off := off) (j := k.toNat * 4 + 3) (cs' := Dat.cs (q.modify k.toNat fun x => (x.1, true))) rfl (by kernel_rfl) rfl (by omega) rfl rfl pul (by omega) (cs_mark (by omega))) ?_
        rintro _ _ rfl
        refine TL.nil ?_
        rw [← hqa, ← hmq]
        refine TQ.block_normal ?_
        refine TQ.loopF ((r.drop 4, markQ S1.base S1.sent q (num (r.take 4)))) (⟨by show (r.drop 4).length % 4 = 0; rw [List.length_drop]; omega, by show (markQ _ _ _ _).map _ = _; rw [markQ_map, hq], by show (words (r.drop 4)).foldl AS.mark _ = _; rw [← hf, words_s hr4, List.foldl_cons, mark_eq]⟩) (by show (r.drop 4).length < r.length; rw [List.length_drop]; omega) trivial grw ?_ ?_ ?_
        · kernel_rfl
        · rfl
        · simp only [List.cons_append, List.nil_append]
          exact ett
      · try simp only [zA, zB, zC, zD, zE, zF, zG, zH, zI, zJ] at c2
        have hmq : markQ S1.base S1.sent q (num (r.take 4)) = q := by unfold markQ; rw [← hk, if_neg (fun h => by have := UInt32.lt_iff_toNat_lt.1 h; omega)]
        rw [show Dat.cs q = Dat.cs (markQ S1.base S1.sent q (num (r.take 4))) by rw [hmq]]
        refine TC.skip (TQ.block_normal ?_)
        refine TQ.loopF ((r.drop 4, markQ S1.base S1.sent q (num (r.take 4)))) (⟨by show (r.drop 4).length % 4 = 0; rw [List.length_drop]; omega, by show (markQ _ _ _ _).map _ = _; rw [markQ_map, hq], by show (words (r.drop 4)).foldl AS.mark _ = _; rw [← hf, words_s hr4, List.foldl_cons, mark_eq]⟩) (by show (r.drop 4).length < r.length; rw [List.length_drop]; omega) trivial grw ?_ ?_ ?_
        · kernel_rfl
        · rfl
        · simp only [List.cons_append, List.nil_append]
          exact ett
    · try simp only [zA, zB, zC, zD, zE, zF, zG, zH, zI, zJ] at c1
      obtain rfl : r = [] := List.length_eq_zero_iff.1 (by omega)
      obtain ⟨T, hT⟩ : ∃ T : AS Msg, T = { S1 with queue := q } := ⟨_, rfl⟩
      have hTa : asC (p) S1 = asC (p) T := by rw [hT]; simp only [asC, hql]
      have hTq : q = T.queue := by rw [hT]
      have hTg : S1.queue.flatMap Dat.g = T.queue.flatMap Dat.g := by rw [← hTq, items_g, items_g, hq]
      have hTs : Short T := ⟨fun x hx => by
          rw [← hTq] at hx
          obtain ⟨y, hy, hyx⟩ := List.mem_map.1 (hq ▸ List.mem_map_of_mem hx : x.1 ∈ S1.queue.map (·.1))
          rw [← hyx]; exact hsh1.queue y hy⟩
      have hTl : T.sent ≤ T.queue.length := by rw [← hTq, hql, hT]; exact hs1
      have hT16 : T.sent ≤ 16 := by rw [hT]; exact h161
      have hfT : (words (l.drop 4)).foldl AS.mark S1 = T := by rw [← hf, hT]; rfl
      rw [hTa, hTg, ← hql, hTq]
      have hack : S.ack1 (num (l.take 4)) (words (l.drop 4)) = T := by rw [AS.ack1, if_neg (by rw [hlf0]; decide), AS.drop1, if_neg (by rw [hlf0]; decide), ← hS1, hfT]
      rw [hack]
      refine TC.exit (TQ.then_exit (TQ.then_exit (TQ.block_exit (TQ.next (TC.seq (TC.seq (TC.region ?_)))))))
      refine TL.mv ?_
      refine TL.nil (TQ.next ?_)
      refine TC.cond_f rfl ?_
      refine TC.skip (TQ.next (TC.seq (TC.region ?_)))
      refine TL.mv ?_
      refine TL.eff rfl rfl rfl (X.cl rfl Try.func42 rfl (h := (more_fn b p T hTs hTl hT16 _))) ?_
      rintro _ _ ⟨o, rfl, ho, rfl⟩
      refine TL.sg ?_
      refine TL.nil (TQ.next (TC.ret ?_))
      refine TQ.retE (res1 rfl rfl) (⟨o, p, rfl, rfl, rfl, rfl, rfl, rfl, ho, rfl⟩) ?_
      exact ett

end
end ac
end Go.Proofs.Ytomplpdeeomehaa


/- assoc: Handle of data and sacks. -/
namespace Go.Proofs.Ytomplpdeeomehaa
set_option linter.unusedVariables false
set_option linter.unusedSimpArgs false
open Go.RowKit
namespace ac
open wr (be16 be32)
open rd (num rdB rdL rdV)
namespace FxAsV
set_option maxRecDepth 100000
theorem pl51 : Program.places Try.prog 51 = some [(0, 1), (1, 1), (2, 1)] := by kernel_rfl
theorem sz51 : (Try.prog.info? 51).map (·.size) = some 3 := by kernel_rfl
end FxAsV
open Go.Proofs.Ytomplpdeeomehaa.ac.FxAsC Go.Proofs.Ytomplpdeeomehaa.sha.FxShaMac Go.Proofs.Ytomplpdeeomehaa.ac.FxAsB Go.Proofs.Ytomplpdeeomehaa.ac.FxAsA Go.Proofs.Ytomplpdeeomehaa.sha.FxShaBlock FxAsV
section
variable (b : Nat) (p : AP) (S : AS Msg) (a : Option Addr) (n cap : Nat) (l : List UInt8) (hn : l.length = n) (hl : n ≤ 140737488351232) (now : Int)
include hn hl


theorem H_data (kd : UInt32) (hF : Formed l kd) (hkd : kd = 5) (ht : n32 l 0 = S.tag) (hs : S.state = 3) (hw : S.Win 32) (L : List SA) : Fn Try.prog 12 [pt b 0, .slice a n cap, vI now] (aB b p S :: SA.rds 1 (.slice a n cap) n (l.map v8) :: aM p (S.clocked now) :: L) (fun v L' => ∃ (o : Sl Bs) (g : Sl Msg) (ta : Option Addr) (tc : Nat), v = .tuple #[o.v, g.v, vN 0] ∧ g.l = ((S.clocked now).recv (n32 l 8) ((num ((l.drop 12).take 2)).toUInt16, n32 l 14, ⟨ta, tc, l.drop 18⟩)).1 ∧ o.l.map (·.l) = [((S.clocked now).recv (n32 l 8) ((num ((l.drop 12).take 2)).toUInt16, n32 l 14, ⟨ta, tc, l.drop 18⟩)).2.sackB] ∧ L' = SA.dat o :: SA.dat g :: aB b p ((S.clocked now).recv (n32 l 8) ((num ((l.drop 12).take 2)).toUInt16, n32 l 14, ⟨ta, tc, l.drop 18⟩)).2 :: aM p ((S.clocked now).recv (n32 l 8) ((num ((l.drop 12).take 2)).toUInt16, n32 l 14, ⟨ta, tc, l.drop 18⟩)).2 :: SA.rds 1 (.slice a n cap) n (l.map v8) :: L) := by
  have hlen := hF.len
  have hl1 : 18 ≤ l.length ∧ l.length ≤ 1042 := by have := hF.fits; subst hkd; simp [fitsB] at this; omega
  refine Fn.of (N := 160) Try.func12 rfl rfl ?_
  intro Xh
  refine TC.seq (TC.region ?_)
  refine TL.sg ?_
  refine TL.sg ?_
  refine TL.sg ?_
  refine TL.nil (TQ.next (TC.seq (TC.seq (TC.region ?_))))
  refine TL.mv ?_
  refine TL.val rfl rfl rfl (by first | exact Y.eqNilP rfl Try.underlying26 rfl rfl | exact Y.eqNil0 rfl Try.underlying26 rfl rfl) ?_
  refine TL.nil (TQ.next ?_)
  refine TC.cond_f rfl ?_
  refine TC.skip (TQ.next (TC.seq (TC.region ?_)))
  refine TL.mv ?_
  refine TL.mv ?_
  refine TL.nc ?_
  refine TL.val rfl rfl rfl (by first | exact Y.fieldAddrJ rfl fo68_11 rfl nqq | exact Y.fieldAddr rfl fo68_11 rfl nqq) ?_
  refine TL.val rfl rfl rfl (Y.load rfl sc2 rfl celN) ?_
  refine TL.as (vI S.clock) (by rfl) ?_
  refine TL.mv ?_
  refine TL.val rfl rfl rfl (Y.maxI rfl rfl rfl) ?_
  refine TL.as (vI (max S.clock now)) (by rfl) ?_
  refine TL.nc ?_
  refine TL.val rfl rfl rfl (by first | exact Y.fieldAddrJ rfl fo68_11 rfl nqq | exact Y.fieldAddr rfl fo68_11 rfl nqq) ?_
  refine TL.eff0 rfl rfl (X.store (cs' := asC p (S.clocked now)) rfl (by kernel_rfl) rfl rfl rfl pul (by show 11 < 17; decide) rfl) ?_
  rintro _ _ rfl
  refine TL.nil (TQ.next (TC.seq (TC.region ?_)))
  refine TL.mv ?_
  refine TL.eff rfl rfl rfl (X.cl rfl Try.func26 rfl (h := (rd.New_fn a n cap l hn hl _))) ?_
  rintro _ _ ⟨p28, rfl, rfl⟩
  refine TL.sg ?_
  refine TL.nil (TQ.next (TC.seq (TC.region ?_)))
  refine TL.mv ?_
  refine TL.eff rfl rfl rfl (X.cl rfl Try.func27 rfl (h := (u32_ok p28 l (by omega) _))) ?_
  rintro _ _ ⟨rfl, rfl⟩
  rw [show num (l.take 4) = n32 l 0 from rfl]
  refine TL.mv ?_
  refine TL.eff rfl rfl rfl (X.cl rfl Try.func27 rfl (h := (u32_ok p28 (l.drop 4) (by rw [List.length_drop]; omega) _))) ?_
  rintro _ _ ⟨rfl, rfl⟩
  rw [show num ((l.drop 4).take 4) = n32 l 4 from rfl, List.drop_drop]
  refine TL.sg ?_
  refine TL.sg ?_
  refine TL.nil (TQ.next (TC.seq (TC.region ?_)))
  refine TL.mv ?_
  refine TL.val rfl rfl rfl (Y.bin rfl rfl rfl (br_shr32 (n := 24))) ?_
  refine TL.as (v32 kd) (by (rw [← hF.kind])) ?_
  refine TL.sg ?_
  refine TL.nil (TQ.next (TC.seq (TC.seq (TC.region ?_))))
  refine TL.mv ?_
  refine TL.eff rfl rfl rfl (X.cl rfl Try.func28 rfl (h := (rd.Bad_fn _ _ _ _))) ?_
  rintro _ _ ⟨rfl, rfl⟩
  refine TL.mv ?_
  refine TL.mg ?_
  refine TL.valG rfl rfl rfl (Y.bin rfl rfl rfl (br_and32 (y := 16777215))) ?_
  refine TL.valG rfl rfl rfl (Y.bin rfl rfl rfl (br_ne32 (y := 0))) ?_
  refine TL.is false (by (simpa using hF.low)) ?_
  refine TL.val rfl rfl rfl (Y.pick_f rfl rfl rfl) ?_
  refine TL.mv ?_
  refine TL.mg ?_
  refine TL.valG rfl rfl rfl (Y.conv rfl Try.underlying22 Try.underlying5 rfl (cv_32_8)) ?_
  refine TL.mg ?_
  refine TL.effG rfl rfl rfl (X.cl rfl Try.func30 rfl (h := (rd.Left_fn _ _ _ _))) ?_
  rintro _ _ ⟨rfl, rfl⟩
  refine TL.as (vN (l.length - 8)) (by (rw [List.length_drop])) ?_
  refine TL.effG rfl rfl rfl (X.cl rfl Try.func29 rfl (h := (fits_fn kd.toUInt8 (l.length - 8) (by omega) _))) ?_
  rintro _ _ ⟨rfl, rfl⟩
  refine TL.valG rfl rfl rfl (Y.not rfl rfl) ?_
  refine TL.is false (by (rw [hF.fits]; rfl)) ?_
  refine TL.val rfl rfl rfl (Y.pick_f rfl rfl rfl) ?_
  refine TL.mv ?_
  refine TL.mg ?_
  refine TL.valG rfl rfl rfl (Y.bin rfl rfl rfl (br_eq32 (y := 0))) ?_
  refine TL.mg ?_
  refine TL.valG rfl rfl rfl (Y.bin rfl rfl rfl (br_eq32 (y := 1))) ?_
  refine TL.valG rfl rfl rfl (Y.neBool rfl Try.underlying4 rfl rfl) ?_
  refine TL.is false (by (have := hF.tagged; by_cases e1 : n32 l 0 = 0 <;> by_cases e2 : kd = 1 <;> simp_all <;> rw [beq_eq_false_iff_ne.2 e1, beq_eq_false_iff_ne.2 e2])) ?_
  refine TL.val rfl rfl rfl (Y.pick_f rfl rfl rfl) ?_
  refine TL.nil (TQ.next ?_)
  refine TC.cond_f rfl ?_
  refine TC.skip (TQ.next (TC.seq (TC.seq (TC.region ?_))))
  refine TL.mv ?_
  refine TL.val rfl rfl rfl (Y.bin rfl rfl rfl (br_leN (n := 2))) ?_
  refine TL.is false (by (subst hkd; decide)) ?_
  refine TL.mv ?_
  refine TL.not rfl rfl rfl ?_
  refine TL.not rfl rfl rfl ?_
  refine TL.not rfl rfl rfl ?_
  refine TL.not rfl rfl rfl ?_
  refine TL.not rfl rfl rfl ?_
  refine TL.val rfl rfl rfl (Y.pick_f rfl rfl rfl) ?_
  refine TL.nil (TQ.next ?_)
  refine TC.cond_f rfl ?_
  refine TC.skip (TQ.next (TC.seq (TC.block (TC.seq (TC.region ?_)))))
  refine TL.mv ?_
  refine TL.val rfl rfl rfl (Y.bin rfl rfl rfl (br_eq32 (y := 1))) ?_
  refine TL.is false (by (subst hkd; decide)) ?_
  refine TL.sg ?_
  refine TL.nil (TQ.next ?_)
  refine TC.cond_f rfl ?_
  refine TC.seq (TC.region ?_)
  refine TL.mv ?_
  refine TL.mv ?_
  refine TL.nc ?_
  refine TL.val rfl rfl rfl (by first | exact Y.fieldAddrJ rfl fo68_0 rfl nqq | exact Y.fieldAddr rfl fo68_0 rfl nqq) ?_
  refine TL.val rfl rfl rfl (Y.load rfl sc22 rfl cel32) ?_
  refine TL.as (v32 S.tag) (by rfl) ?_
  refine TL.val rfl rfl rfl (Y.bin rfl rfl rfl (br_ne32)) ?_
  refine TL.is false (by (simpa using ht)) ?_
  refine TL.sg ?_
  refine TL.nil (TQ.next ?_)
  refine TC.cond_f rfl ?_
  refine TC.seq (TC.region ?_)
  refine TL.mv ?_
  refine TL.val rfl rfl rfl (Y.bin rfl rfl rfl (br_eq32 (y := 2))) ?_
  refine TL.is false (by (subst hkd; decide)) ?_
  refine TL.sg ?_
  refine TL.nil (TQ.next ?_)
  refine TC.cond_f rfl ?_
  refine TC.seq (TC.region ?_)
  refine TL.mv ?_
  refine TL.val rfl rfl rfl (Y.bin rfl rfl rfl (br_eq32 (y := 3))) ?_
  refine TL.is false (by (subst hkd; decide)) ?_
  refine TL.sg ?_
  refine TL.nil (TQ.next ?_)
  refine TC.cond_f rfl ?_
  refine TC.seq (TC.region ?_)
  refine TL.mv ?_
  refine TL.val rfl rfl rfl (Y.bin rfl rfl rfl (br_eq32 (y := 4))) ?_
  refine TL.is false (by (subst hkd; decide)) ?_
  refine TL.sg ?_
  refine TL.nil (TQ.next ?_)
  refine TC.cond_f rfl ?_
  refine TC.seq (TC.region ?_)
  refine TL.mv ?_
  refine TL.val rfl rfl rfl (Y.bin rfl rfl rfl (br_eq32 (y := 7))) ?_
  refine TL.is false (by (subst hkd; decide)) ?_
  refine TL.sg ?_
  refine TL.nil (TQ.next ?_)
  refine TC.cond_f rfl ?_
  refine TC.seq (TC.region ?_)
  refine TL.mv ?_
  refine TL.nc ?_
  refine TL.val rfl rfl rfl (by first | exact Y.fieldAddrJ rfl fo68_3 rfl nqq | exact Y.fieldAddr rfl fo68_3 rfl nqq) ?_
  refine TL.val rfl rfl rfl (Y.load rfl sc3 rfl celN) ?_
  refine TL.as (vN S.state) (by rfl) ?_
  refine TL.val rfl rfl rfl (Y.bin rfl rfl rfl (br_neN (n := 3))) ?_
  refine TL.is false (by (simpa using hs)) ?_
  refine TL.sg ?_
  refine TL.nil (TQ.next ?_)
  refine TC.cond_f rfl ?_
  refine TC.seq (TC.region ?_)
  refine TL.mv ?_
  refine TL.val rfl rfl rfl (Y.bin rfl rfl rfl (br_eq32 (y := 5))) ?_
  refine TL.is true (by (subst hkd; decide)) ?_
  refine TL.sg ?_
  refine TL.nil (TQ.next ?_)
  refine TC.cond_t rfl ?_
  refine TC.seq (TC.region ?_)
  refine TL.mv ?_
  refine TL.eff rfl rfl rfl (X.cl rfl Try.func27 rfl (h := (u32_ok p28 (l.drop 8) (by rw [List.length_drop]; omega) _))) ?_
  rintro _ _ ⟨rfl, rfl⟩
  rw [List.drop_drop, show num ((l.drop 8).take 4) = n32 l 8 from rfl]
  refine TL.sg ?_
  refine TL.nil (TQ.next (TC.seq (TC.region ?_)))
  refine TL.mv ?_
  refine TL.eff rfl rfl rfl (X.cl rfl Try.func34 rfl (h := (u16_ok p28 (l.drop 12) (by rw [List.length_drop]; omega) _))) ?_
  rintro _ _ ⟨rfl, rfl⟩
  rw [List.drop_drop]
  refine TL.mv ?_
  refine TL.eff rfl rfl rfl (X.cl rfl Try.func27 rfl (h := (u32_ok p28 (l.drop 14) (by rw [List.length_drop]; omega) _))) ?_
  rintro _ _ ⟨rfl, rfl⟩
  rw [List.drop_drop, show num ((l.drop 14).take 4) = n32 l 14 from rfl]
  obtain ⟨sx, hsx⟩ : ∃ sx, sx = (num ((l.drop 12).take 2)).toUInt16 := ⟨_, rfl⟩
  obtain ⟨bs, hbs⟩ : ∃ bs, bs = l.drop 18 := ⟨_, rfl⟩
  have hbl : bs.length = l.length - 18 := by rw [hbs, List.length_drop]
  rw [← hsx, ← hbs]
  refine TL.val rfl rfl rfl (Y.buildS (cells := #[v16 sx, v32 (n32 l 14), .slice none 0 0]) rfl rfl pl51 zc51 (by kernel_rfl)) ?_
  refine TL.eff rfl rfl rfl (X.alloc rfl zc51) ?_
  rintro _ _ ⟨b14, rfl, rfl⟩
  refine TL.eff0 rfl rfl (by first | exact X.storeAll rfl sz51 (by rfl) rfl rfl (allOne (by rfl)) pul (by rfl) | exact X.storeAll rfl sz51 szz rfl rfl (by simp [Value.oneCell']) pul szz | exact X.storeAgg rfl sz51 szz rfl rfl (by simp [Value.oneCell']) pul szz (writeM (by ((try simp only [List.length_set, List.length_map, List.length_append, List.length_replicate]); omega)))) ?_
  rintro _ _ rfl
  refine TL.nil (TQ.next (TC.seq (TC.region ?_)))
  refine TL.mv ?_
  refine TL.mv ?_
  refine TL.eff rfl rfl rfl (X.cl rfl Try.func30 rfl (h := (rd.Left_fn _ _ _ _))) ?_
  rintro _ _ ⟨rfl, rfl⟩
  refine TL.eff rfl rfl rfl (X.cl rfl Try.func35 rfl (h := (take_ok p28 bs.length bs (Nat.le_refl _) (by omega) _))) ?_
  rintro _ _ ⟨ta, tc, rfl, rfl⟩
  rw [List.take_of_length_le (Nat.le_refl bs.length)]
  refine TL.val rfl rfl rfl (by first | exact Y.fieldAddrJ rfl fo51_2 rfl nqq | exact Y.fieldAddr rfl fo51_2 rfl nqq) ?_
  refine TL.eff0 rfl rfl (X.store (cs' := msC sx (n32 l 14) (.slice ta bs.length tc)) rfl (by kernel_rfl) rfl rfl rfl pul (by show 2 < 3; decide) rfl) ?_
  rintro _ _ rfl
  refine TL.nil (TQ.next (TC.seq ?_))
  refine TC.to ((Pull.ent (A := SA.owns 5 1 (.slice ta bs.length tc) bs.length (bs.map v8)) pul).trans (Ent.freeze.trans (Ent.mkBytes rfl))) ?_
  refine TC.region ?_
  refine TL.mv ?_
  refine TL.mv ?_
  refine TL.val rfl rfl rfl (Y.loadAgg rfl ag51 rfl (Cels.all (cs := msC sx (n32 l 14) (.slice ta bs.length tc)) inn) (by first | rfl | ((try simp only [List.length_map, List.length_set, List.length_replicate]); omega))) ?_
  refine TL.as (.agg (msC sx (n32 l 14) (.slice ta bs.length tc))) (by rfl) ?_
  refine TL.eff rfl rfl rfl (X.cl rfl Try.func36 rfl (h := (receive_fn b p (S.clocked now) (n32 l 8) sx (n32 l 14) ⟨ta, tc, bs⟩ hw _))) ?_
  rintro _ _ ⟨g, rfl, hg, rfl⟩
  refine TL.sg ?_
  refine TL.nil ?_
  obtain ⟨R, hR⟩ : ∃ R, R = (S.clocked now).recv (n32 l 8) (sx, n32 l 14, ⟨ta, tc, bs⟩) := ⟨_, rfl⟩
  rw [← hR]
  refine TQ.next (TC.seq (TC.region ?_))
  refine TL.mv ?_
  refine TL.eff rfl rfl rfl (X.cl rfl Try.func37 rfl (h := (sack_fn b p R.2 _))) ?_
  rintro _ _ ⟨a154, c154, rfl, rfl⟩
  refine TL.eff rfl rfl rfl (X.lit rfl el24 rfl rfl rfl (by decide) rfl) ?_
  rintro _ _ ⟨g155, rfl, rfl⟩
  refine TL.mv ?_
  refine TL.sg ?_
  refine TL.sg ?_
  refine TL.sg ?_
  refine TL.nil (TQ.next (TC.ret (TQ.block_ret (TQ.then_ret ?_))))
  refine TQ.retE (resL rfl (Res.tmp rfl (Res.tmp rfl (Res.tmp rfl Res.nil)))) (⟨⟨some ⟨g155, 0, none⟩, 1, [⟨a154, c154, R.2.sackB⟩]⟩, g, ta, tc, rfl, hg, by rw [← hR]; rfl, by rw [← hR]⟩) ?_
  exact (Ent.trans (Ent.one1 (a := a154) (g := g155) (l := R.2.sackB) pul pul rfl) ett)

theorem H_sack_left (kd : UInt32) (hF : Formed l kd) (hkd : kd = 6) (ht : n32 l 0 = S.tag) (hs : S.state = 3) (hsh : Short S) (hs1 : S.sent ≤ S.queue.length) (h16 : S.sent ≤ 16) (hq32 : S.queue.length ≤ 32) (hlf : (S.clocked now).left (n32 l 8) = true) (L : List SA) : Fn Try.prog 12 [pt b 0, .slice a n cap, vI now] (aB b p S :: SA.rds 1 (.slice a n cap) n (l.map v8) :: aQ p (S.clocked now) :: aD (S.clocked now) :: L) (fun v L' => ∃ (o : Sl Bs) (p' : AP), p'.sa = p.sa ∧ p'.sc = p.sc ∧ p'.mb = p.mb ∧ p'.ha = p.ha ∧ p'.hc = p.hc ∧ v = .tuple #[o.v, .slice none 0 0, vN 0] ∧ o.l.map (·.l) = (abs ((S.clocked now).ack1 (n32 l 8) (words (l.drop 12)))).moreOut ∧ L' = SA.dat o :: aB b p' ((S.clocked now).ack1 (n32 l 8) (words (l.drop 12))).more :: aQ p' ((S.clocked now).ack1 (n32 l 8) (words (l.drop 12))) :: aD ((S.clocked now).ack1 (n32 l 8) (words (l.drop 12))) :: SA.rds 1 (.slice a n cap) n (l.map v8) :: L) := by
  have hlen := hF.len
  have hl1 : 12 ≤ l.length ∧ l.length % 4 = 0 := by have := hF.fits; subst hkd; simp [fitsB] at this; omega
  refine Fn.of (N := 160) Try.func12 rfl rfl ?_
  intro Xh
  refine TC.seq (TC.region ?_)
  refine TL.sg ?_
  refine TL.sg ?_
  refine TL.sg ?_
  refine TL.nil (TQ.next (TC.seq (TC.seq (TC.region ?_))))
  refine TL.mv ?_
  refine TL.val rfl rfl rfl (by first | exact Y.eqNilP rfl Try.underlying26 rfl rfl | exact Y.eqNil0 rfl Try.underlying26 rfl rfl) ?_
  refine TL.nil (TQ.next ?_)
  refine TC.cond_f rfl ?_
  refine TC.skip (TQ.next (TC.seq (TC.region ?_)))
  refine TL.mv ?_
  refine TL.mv ?_
  refine TL.nc ?_
  refine TL.val rfl rfl rfl (by first | exact Y.fieldAddrJ rfl fo68_11 rfl nqq | exact Y.fieldAddr rfl fo68_11 rfl nqq) ?_
  refine TL.val rfl rfl rfl (Y.load rfl sc2 rfl celN) ?_
  refine TL.as (vI S.clock) (by rfl) ?_
  refine TL.mv ?_
  refine TL.val rfl rfl rfl (Y.maxI rfl rfl rfl) ?_
  refine TL.as (vI (max S.clock now)) (by rfl) ?_
  refine TL.nc ?_
  refine TL.val rfl rfl rfl (by first | exact Y.fieldAddrJ rfl fo68_11 rfl nqq | exact Y.fieldAddr rfl fo68_11 rfl nqq) ?_
  refine TL.eff0 rfl rfl (X.store (cs' := asC p (S.clocked now)) rfl (by kernel_rfl) rfl rfl rfl pul (by show 11 < 17; decide) rfl) ?_
  rintro _ _ rfl
  refine TL.nil (TQ.next (TC.seq (TC.region ?_)))
  refine TL.mv ?_
  refine TL.eff rfl rfl rfl (X.cl rfl Try.func26 rfl (h := (rd.New_fn a n cap l hn hl _))) ?_
  rintro _ _ ⟨p28, rfl, rfl⟩
  refine TL.sg ?_
  refine TL.nil (TQ.next (TC.seq (TC.region ?_)))
  refine TL.mv ?_
  refine TL.eff rfl rfl rfl (X.cl rfl Try.func27 rfl (h := (u32_ok p28 l (by omega) _))) ?_
  rintro _ _ ⟨rfl, rfl⟩
  rw [show num (l.take 4) = n32 l 0 from rfl]
  refine TL.mv ?_
  refine TL.eff rfl rfl rfl (X.cl rfl Try.func27 rfl (h := (u32_ok p28 (l.drop 4) (by rw [List.length_drop]; omega) _))) ?_
  rintro _ _ ⟨rfl, rfl⟩
  rw [show num ((l.drop 4).take 4) = n32 l 4 from rfl, List.drop_drop]
  refine TL.sg ?_
  refine TL.sg ?_
  refine TL.nil (TQ.next (TC.seq (TC.region ?_)))
  refine TL.mv ?_
  refine TL.val rfl rfl rfl (Y.bin rfl rfl rfl (br_shr32 (n := 24))) ?_
  refine TL.as (v32 kd) (by (rw [← hF.kind])) ?_
  refine TL.sg ?_
  refine TL.nil (TQ.next (TC.seq (TC.seq (TC.region ?_))))
  refine TL.mv ?_
  refine TL.eff rfl rfl rfl (X.cl rfl Try.func28 rfl (h := (rd.Bad_fn _ _ _ _))) ?_
  rintro _ _ ⟨rfl, rfl⟩
  refine TL.mv ?_
  refine TL.mg ?_
  refine TL.valG rfl rfl rfl (Y.bin rfl rfl rfl (br_and32 (y := 16777215))) ?_
  refine TL.valG rfl rfl rfl (Y.bin rfl rfl rfl (br_ne32 (y := 0))) ?_
  refine TL.is false (by (simpa using hF.low)) ?_
  refine TL.val rfl rfl rfl (Y.pick_f rfl rfl rfl) ?_
  refine TL.mv ?_
  refine TL.mg ?_
  refine TL.valG rfl rfl rfl (Y.conv rfl Try.underlying22 Try.underlying5 rfl (cv_32_8)) ?_
  refine TL.mg ?_
  refine TL.effG rfl rfl rfl (X.cl rfl Try.func30 rfl (h := (rd.Left_fn _ _ _ _))) ?_
  rintro _ _ ⟨rfl, rfl⟩
  refine TL.as (vN (l.length - 8)) (by (rw [List.length_drop])) ?_
  refine TL.effG rfl rfl rfl (X.cl rfl Try.func29 rfl (h := (fits_fn kd.toUInt8 (l.length - 8) (by omega) _))) ?_
  rintro _ _ ⟨rfl, rfl⟩
  refine TL.valG rfl rfl rfl (Y.not rfl rfl) ?_
  refine TL.is false (by (rw [hF.fits]; rfl)) ?_
  refine TL.val rfl rfl rfl (Y.pick_f rfl rfl rfl) ?_
  refine TL.mv ?_
  refine TL.mg ?_
  refine TL.valG rfl rfl rfl (Y.bin rfl rfl rfl (br_eq32 (y := 0))) ?_
  refine TL.mg ?_
  refine TL.valG rfl rfl rfl (Y.bin rfl rfl rfl (br_eq32 (y := 1))) ?_
  refine TL.valG rfl rfl rfl (Y.neBool rfl Try.underlying4 rfl rfl) ?_
  refine TL.is false (by (have := hF.tagged; by_cases e1 : n32 l 0 = 0 <;> by_cases e2 : kd = 1 <;> simp_all <;> rw [beq_eq_false_iff_ne.2 e1, beq_eq_false_iff_ne.2 e2])) ?_
  refine TL.val rfl rfl rfl (Y.pick_f rfl rfl rfl) ?_
  refine TL.nil (TQ.next ?_)
  refine TC.cond_f rfl ?_
  refine TC.skip (TQ.next (TC.seq (TC.seq (TC.region ?_))))
  refine TL.mv ?_
  refine TL.val rfl rfl rfl (Y.bin rfl rfl rfl (br_leN (n := 2))) ?_
  refine TL.is false (by (subst hkd; decide)) ?_
  refine TL.mv ?_
  refine TL.not rfl rfl rfl ?_
  refine TL.not rfl rfl rfl ?_
  refine TL.not rfl rfl rfl ?_
  refine TL.not rfl rfl rfl ?_
  refine TL.not rfl rfl rfl ?_
  refine TL.val rfl rfl rfl (Y.pick_f rfl rfl rfl) ?_
  refine TL.nil (TQ.next ?_)
  refine TC.cond_f rfl ?_
  refine TC.skip (TQ.next (TC.seq (TC.block (TC.seq (TC.region ?_)))))
  refine TL.mv ?_
  refine TL.val rfl rfl rfl (Y.bin rfl rfl rfl (br_eq32 (y := 1))) ?_
  refine TL.is false (by (subst hkd; decide)) ?_
  refine TL.sg ?_
  refine TL.nil (TQ.next ?_)
  refine TC.cond_f rfl ?_
  refine TC.seq (TC.region ?_)
  refine TL.mv ?_
  refine TL.mv ?_
  refine TL.nc ?_
  refine TL.val rfl rfl rfl (by first | exact Y.fieldAddrJ rfl fo68_0 rfl nqq | exact Y.fieldAddr rfl fo68_0 rfl nqq) ?_
  refine TL.val rfl rfl rfl (Y.load rfl sc22 rfl cel32) ?_
  refine TL.as (v32 S.tag) (by rfl) ?_
  refine TL.val rfl rfl rfl (Y.bin rfl rfl rfl (br_ne32)) ?_
  refine TL.is false (by (simpa using ht)) ?_
  refine TL.sg ?_
  refine TL.nil (TQ.next ?_)
  refine TC.cond_f rfl ?_
  refine TC.seq (TC.region ?_)
  refine TL.mv ?_
  refine TL.val rfl rfl rfl (Y.bin rfl rfl rfl (br_eq32 (y := 2))) ?_
  refine TL.is false (by (subst hkd; decide)) ?_
  refine TL.sg ?_
  refine TL.nil (TQ.next ?_)
  refine TC.cond_f rfl ?_
  refine TC.seq (TC.region ?_)
  refine TL.mv ?_
  refine TL.val rfl rfl rfl (Y.bin rfl rfl rfl (br_eq32 (y := 3))) ?_
  refine TL.is false (by (subst hkd; decide)) ?_
  refine TL.sg ?_
  refine TL.nil (TQ.next ?_)
  refine TC.cond_f rfl ?_
  refine TC.seq (TC.region ?_)
  refine TL.mv ?_
  refine TL.val rfl rfl rfl (Y.bin rfl rfl rfl (br_eq32 (y := 4))) ?_
  refine TL.is false (by (subst hkd; decide)) ?_
  refine TL.sg ?_
  refine TL.nil (TQ.next ?_)
  refine TC.cond_f rfl ?_
  refine TC.seq (TC.region ?_)
  refine TL.mv ?_
  refine TL.val rfl rfl rfl (Y.bin rfl rfl rfl (br_eq32 (y := 7))) ?_
  refine TL.is false (by (subst hkd; decide)) ?_
  refine TL.sg ?_
  refine TL.nil (TQ.next ?_)
  refine TC.cond_f rfl ?_
  refine TC.seq (TC.region ?_)
  refine TL.mv ?_
  refine TL.nc ?_
  refine TL.val rfl rfl rfl (by first | exact Y.fieldAddrJ rfl fo68_3 rfl nqq | exact Y.fieldAddr rfl fo68_3 rfl nqq) ?_
  refine TL.val rfl rfl rfl (Y.load rfl sc3 rfl celN) ?_
  refine TL.as (vN S.state) (by rfl) ?_
  refine TL.val rfl rfl rfl (Y.bin rfl rfl rfl (br_neN (n := 3))) ?_
  refine TL.is false (by (simpa using hs)) ?_
  refine TL.sg ?_
  refine TL.nil (TQ.next ?_)
  refine TC.cond_f rfl ?_
  refine TC.seq (TC.region ?_)
  refine TL.mv ?_
  refine TL.val rfl rfl rfl (Y.bin rfl rfl rfl (br_eq32 (y := 5))) ?_
  refine TL.is false (by (subst hkd; decide)) ?_
  refine TL.sg ?_
  refine TL.nil (TQ.next ?_)
  refine TC.cond_f rfl ?_
  refine TC.skip (TQ.block_normal (TQ.next (TC.seq (TC.region ?_))))
  refine TL.mv ?_
  refine TL.mv ?_
  refine TL.eff rfl rfl rfl (X.cl rfl Try.func38 rfl (h := (acked_left b p (S.clocked now) (by have := hsh; exact ⟨this.queue⟩) hs1 h16 hq32 p28 (l.drop 8) (by rw [List.length_drop]; omega) (by rw [List.length_drop]; omega) hlf _))) ?_
  rintro _ _ ⟨o, p', e1, e2, e3, e4, e5, rfl, ho, rfl⟩
  simp only [List.drop_drop] at ho ⊢
  refine TL.sg ?_
  refine TL.sg ?_
  refine TL.sg ?_
  refine TL.nil (TQ.next (TC.ret ?_))
  refine TQ.retE (resL rfl (Res.tmp rfl (Res.tmp rfl (Res.tmp rfl Res.nil)))) (⟨o, p', e1, e2, e3, e4, e5, rfl, ho, rfl⟩) ?_
  exact ett

theorem H_sack_not (kd : UInt32) (hF : Formed l kd) (hkd : kd = 6) (ht : n32 l 0 = S.tag) (hs : S.state = 3) (hsh : Short S) (hs1 : S.sent ≤ S.queue.length) (h16 : S.sent ≤ 16) (hq32 : S.queue.length ≤ 32) (hlf : (S.clocked now).left (n32 l 8) = false) (L : List SA) : Fn Try.prog 12 [pt b 0, .slice a n cap, vI now] (aB b p S :: SA.rds 1 (.slice a n cap) n (l.map v8) :: aQ p (S.clocked now) :: aD (S.clocked now) :: L) (fun v L' => ∃ (o : Sl Bs) (p' : AP), p'.sa = p.sa ∧ p'.sc = p.sc ∧ p'.mb = p.mb ∧ p'.ha = p.ha ∧ p'.hc = p.hc ∧ v = .tuple #[o.v, .slice none 0 0, vN 0] ∧ o.l.map (·.l) = (abs ((S.clocked now).ack1 (n32 l 8) (words (l.drop 12)))).moreOut ∧ L' = SA.dat o :: aB b p' ((S.clocked now).ack1 (n32 l 8) (words (l.drop 12))).more :: aQ p' ((S.clocked now).ack1 (n32 l 8) (words (l.drop 12))) :: aD ((S.clocked now).ack1 (n32 l 8) (words (l.drop 12))) :: SA.rds 1 (.slice a n cap) n (l.map v8) :: L) := by
  have hlen := hF.len
  have hl1 : 12 ≤ l.length ∧ l.length % 4 = 0 := by have := hF.fits; subst hkd; simp [fitsB] at this; omega
  refine Fn.of (N := 160) Try.func12 rfl rfl ?_
  intro Xh
  refine TC.seq (TC.region ?_)
  refine TL.sg ?_
  refine TL.sg ?_
  refine TL.sg ?_
  refine TL.nil (TQ.next (TC.seq (TC.seq (TC.region ?_))))
  refine TL.mv ?_
  refine TL.val rfl rfl rfl (by first | exact Y.eqNilP rfl Try.underlying26 rfl rfl | exact Y.eqNil0 rfl Try.underlying26 rfl rfl) ?_
  refine TL.nil (TQ.next ?_)
  refine TC.cond_f rfl ?_
  refine TC.skip (TQ.next (TC.seq (TC.region ?_)))
  refine TL.mv ?_
  refine TL.mv ?_
  refine TL.nc ?_
  refine TL.val rfl rfl rfl (by first | exact Y.fieldAddrJ rfl fo68_11 rfl nqq | exact Y.fieldAddr rfl fo68_11 rfl nqq) ?_
  refine TL.val rfl rfl rfl (Y.load rfl sc2 rfl celN) ?_
  refine TL.as (vI S.clock) (by rfl) ?_
  refine TL.mv ?_
  refine TL.val rfl rfl rfl (Y.maxI rfl rfl rfl) ?_
  refine TL.as (vI (max S.clock now)) (by rfl) ?_
  refine TL.nc ?_
  refine TL.val rfl rfl rfl (by first | exact Y.fieldAddrJ rfl fo68_11 rfl nqq | exact Y.fieldAddr rfl fo68_11 rfl nqq) ?_
  refine TL.eff0 rfl rfl (X.store (cs' := asC p (S.clocked now)) rfl (by kernel_rfl) rfl rfl rfl pul (by show 11 < 17; decide) rfl) ?_
  rintro _ _ rfl
  refine TL.nil (TQ.next (TC.seq (TC.region ?_)))
  refine TL.mv ?_
  refine TL.eff rfl rfl rfl (X.cl rfl Try.func26 rfl (h := (rd.New_fn a n cap l hn hl _))) ?_
  rintro _ _ ⟨p28, rfl, rfl⟩
  refine TL.sg ?_
  refine TL.nil (TQ.next (TC.seq (TC.region ?_)))
  refine TL.mv ?_
  refine TL.eff rfl rfl rfl (X.cl rfl Try.func27 rfl (h := (u32_ok p28 l (by omega) _))) ?_
  rintro _ _ ⟨rfl, rfl⟩
  rw [show num (l.take 4) = n32 l 0 from rfl]
  refine TL.mv ?_
  refine TL.eff rfl rfl rfl (X.cl rfl Try.func27 rfl (h := (u32_ok p28 (l.drop 4) (by rw [List.length_drop]; omega) _))) ?_
  rintro _ _ ⟨rfl, rfl⟩
  rw [show num ((l.drop 4).take 4) = n32 l 4 from rfl, List.drop_drop]
  refine TL.sg ?_
  refine TL.sg ?_
  refine TL.nil (TQ.next (TC.seq (TC.region ?_)))
  refine TL.mv ?_
  refine TL.val rfl rfl rfl (Y.bin rfl rfl rfl (br_shr32 (n := 24))) ?_
  refine TL.as (v32 kd) (by (rw [← hF.kind])) ?_
  refine TL.sg ?_
  refine TL.nil (TQ.next (TC.seq (TC.seq (TC.region ?_))))
  refine TL.mv ?_
  refine TL.eff rfl rfl rfl (X.cl rfl Try.func28 rfl (h := (rd.Bad_fn _ _ _ _))) ?_
  rintro _ _ ⟨rfl, rfl⟩
  refine TL.mv ?_
  refine TL.mg ?_
  refine TL.valG rfl rfl rfl (Y.bin rfl rfl rfl (br_and32 (y := 16777215))) ?_
  refine TL.valG rfl rfl rfl (Y.bin rfl rfl rfl (br_ne32 (y := 0))) ?_
  refine TL.is false (by (simpa using hF.low)) ?_
  refine TL.val rfl rfl rfl (Y.pick_f rfl rfl rfl) ?_
  refine TL.mv ?_
  refine TL.mg ?_
  refine TL.valG rfl rfl rfl (Y.conv rfl Try.underlying22 Try.underlying5 rfl (cv_32_8)) ?_
  refine TL.mg ?_
  refine TL.effG rfl rfl rfl (X.cl rfl Try.func30 rfl (h := (rd.Left_fn _ _ _ _))) ?_
  rintro _ _ ⟨rfl, rfl⟩
  refine TL.as (vN (l.length - 8)) (by (rw [List.length_drop])) ?_
  refine TL.effG rfl rfl rfl (X.cl rfl Try.func29 rfl (h := (fits_fn kd.toUInt8 (l.length - 8) (by omega) _))) ?_
  rintro _ _ ⟨rfl, rfl⟩
  refine TL.valG rfl rfl rfl (Y.not rfl rfl) ?_
  refine TL.is false (by (rw [hF.fits]; rfl)) ?_
  refine TL.val rfl rfl rfl (Y.pick_f rfl rfl rfl) ?_
  refine TL.mv ?_
  refine TL.mg ?_
  refine TL.valG rfl rfl rfl (Y.bin rfl rfl rfl (br_eq32 (y := 0))) ?_
  refine TL.mg ?_
  refine TL.valG rfl rfl rfl (Y.bin rfl rfl rfl (br_eq32 (y := 1))) ?_
  refine TL.valG rfl rfl rfl (Y.neBool rfl Try.underlying4 rfl rfl) ?_
  refine TL.is false (by (have := hF.tagged; by_cases e1 : n32 l 0 = 0 <;> by_cases e2 : kd = 1 <;> simp_all <;> rw [beq_eq_false_iff_ne.2 e1, beq_eq_false_iff_ne.2 e2])) ?_
  refine TL.val rfl rfl rfl (Y.pick_f rfl rfl rfl) ?_
  refine TL.nil (TQ.next ?_)
  refine TC.cond_f rfl ?_
  refine TC.skip (TQ.next (TC.seq (TC.seq (TC.region ?_))))
  refine TL.mv ?_
  refine TL.val rfl rfl rfl (Y.bin rfl rfl rfl (br_leN (n := 2))) ?_
  refine TL.is false (by (subst hkd; decide)) ?_
  refine TL.mv ?_
  refine TL.not rfl rfl rfl ?_
  refine TL.not rfl rfl rfl ?_
  refine TL.not rfl rfl rfl ?_
  refine TL.not rfl rfl rfl ?_
  refine TL.not rfl rfl rfl ?_
  refine TL.val rfl rfl rfl (Y.pick_f rfl rfl rfl) ?_
  refine TL.nil (TQ.next ?_)
  refine TC.cond_f rfl ?_
  refine TC.skip (TQ.next (TC.seq (TC.block (TC.seq (TC.region ?_)))))
  refine TL.mv ?_
  refine TL.val rfl rfl rfl (Y.bin rfl rfl rfl (br_eq32 (y := 1))) ?_
  refine TL.is false (by (subst hkd; decide)) ?_
  refine TL.sg ?_
  refine TL.nil (TQ.next ?_)
  refine TC.cond_f rfl ?_
  refine TC.seq (TC.region ?_)
  refine TL.mv ?_
  refine TL.mv ?_
  refine TL.nc ?_
  refine TL.val rfl rfl rfl (by first | exact Y.fieldAddrJ rfl fo68_0 rfl nqq | exact Y.fieldAddr rfl fo68_0 rfl nqq) ?_
  refine TL.val rfl rfl rfl (Y.load rfl sc22 rfl cel32) ?_
  refine TL.as (v32 S.tag) (by rfl) ?_
  refine TL.val rfl rfl rfl (Y.bin rfl rfl rfl (br_ne32)) ?_
  refine TL.is false (by (simpa using ht)) ?_
  refine TL.sg ?_
  refine TL.nil (TQ.next ?_)
  refine TC.cond_f rfl ?_
  refine TC.seq (TC.region ?_)
  refine TL.mv ?_
  refine TL.val rfl rfl rfl (Y.bin rfl rfl rfl (br_eq32 (y := 2))) ?_
  refine TL.is false (by (subst hkd; decide)) ?_
  refine TL.sg ?_
  refine TL.nil (TQ.next ?_)
  refine TC.cond_f rfl ?_
  refine TC.seq (TC.region ?_)
  refine TL.mv ?_
  refine TL.val rfl rfl rfl (Y.bin rfl rfl rfl (br_eq32 (y := 3))) ?_
  refine TL.is false (by (subst hkd; decide)) ?_
  refine TL.sg ?_
  refine TL.nil (TQ.next ?_)
  refine TC.cond_f rfl ?_
  refine TC.seq (TC.region ?_)
  refine TL.mv ?_
  refine TL.val rfl rfl rfl (Y.bin rfl rfl rfl (br_eq32 (y := 4))) ?_
  refine TL.is false (by (subst hkd; decide)) ?_
  refine TL.sg ?_
  refine TL.nil (TQ.next ?_)
  refine TC.cond_f rfl ?_
  refine TC.seq (TC.region ?_)
  refine TL.mv ?_
  refine TL.val rfl rfl rfl (Y.bin rfl rfl rfl (br_eq32 (y := 7))) ?_
  refine TL.is false (by (subst hkd; decide)) ?_
  refine TL.sg ?_
  refine TL.nil (TQ.next ?_)
  refine TC.cond_f rfl ?_
  refine TC.seq (TC.region ?_)
  refine TL.mv ?_
  refine TL.nc ?_
  refine TL.val rfl rfl rfl (by first | exact Y.fieldAddrJ rfl fo68_3 rfl nqq | exact Y.fieldAddr rfl fo68_3 rfl nqq) ?_
  refine TL.val rfl rfl rfl (Y.load rfl sc3 rfl celN) ?_
  refine TL.as (vN S.state) (by rfl) ?_
  refine TL.val rfl rfl rfl (Y.bin rfl rfl rfl (br_neN (n := 3))) ?_
  refine TL.is false (by (simpa using hs)) ?_
  refine TL.sg ?_
  refine TL.nil (TQ.next ?_)
  refine TC.cond_f rfl ?_
  refine TC.seq (TC.region ?_)
  refine TL.mv ?_
  refine TL.val rfl rfl rfl (Y.bin rfl rfl rfl (br_eq32 (y := 5))) ?_
  refine TL.is false (by (subst hkd; decide)) ?_
  refine TL.sg ?_
  refine TL.nil (TQ.next ?_)
  refine TC.cond_f rfl ?_
  refine TC.skip (TQ.block_normal (TQ.next (TC.seq (TC.region ?_))))
  refine TL.mv ?_
  refine TL.mv ?_
  refine TL.eff rfl rfl rfl (X.cl rfl Try.func38 rfl (h := (acked_not b p (S.clocked now) (by have := hsh; exact ⟨this.queue⟩) hs1 h16 p28 (l.drop 8) (by rw [List.length_drop]; omega) (by rw [List.length_drop]; omega) hlf _))) ?_
  rintro _ _ ⟨o, p', e1, e2, e3, e4, e5, rfl, ho, rfl⟩
  simp only [List.drop_drop] at ho ⊢
  refine TL.sg ?_
  refine TL.sg ?_
  refine TL.sg ?_
  refine TL.nil (TQ.next (TC.ret ?_))
  refine TQ.retE (resL rfl (Res.tmp rfl (Res.tmp rfl (Res.tmp rfl Res.nil)))) (⟨o, p', e1, e2, e3, e4, e5, rfl, ho, rfl⟩) ?_
  exact ett

end
end ac
end Go.Proofs.Ytomplpdeeomehaa


/- assoc: what a side does does not look into messages. -/
namespace Go.Proofs.Ytomplpdeeomehaa
set_option linter.unusedVariables false
set_option linter.unusedSimpArgs false
open Go.RowKit
namespace ac
open wr (be16 be32)
open rd (num)
def AS.handle2 (S : PS) (b : List UInt8) (k : UInt32) : PS × List (List UInt8) × List PM × Nat :=
  if k ≤ 2 ∧ n32 b 8 = 0 then (S, [], [], 2)
  else if k = 1 then (if S.state ≠ 0 ∧ S.state ≠ 3 then (S, [], [], 9) else (S, [S.initAckB (n32 b 8) (n32 b 12)], [], 0))
  else if n32 b 0 ≠ S.tag then (S, [], [], 4)
  else if k = 2 then (if S.state ≠ 1 then (S, [], [], 9) else (S.echo (n32 b 8) (n32 b 12) (b.drop 16), [echoB (n32 b 8) (b.drop 16)], [], 0))
  else if k = 3 then (
    if b.drop 8 ≠ cookieB S (n32 b 8) (n32 b 12) then (S, [], [], 4)
    else if S.state = 0 then (S.opened (n32 b 8) (n32 b 12), [pkt (n32 b 8) 4], [], 0)
    else if S.state ≠ 3 ∨ S.other ≠ n32 b 8 then (S, [], [], 9)
    else (S, [pkt S.other 4], [], 0))
  else if k = 4 then (if S.state = 2 then ({ S with state := 3, tset := false }, [], [], 0) else if S.state = 3 then (S, [], [], 0) else (S, [], [], 9))
  else if k = 7 then ({ S with state := 4, tset := false }, [], [], 0)
  else if S.state ≠ 3 then (S, [], [], 9)
  else if k = 5 then (
    let r := S.recv (n32 b 8) ((num ((b.drop 12).take 2)).toUInt16, n32 b 14, b.drop 18)
    (r.2, [r.2.sackB], r.1, 0))
  else (
    let S2 := S.ack1 (n32 b 8) (words (b.drop 12))
    (S2.more, S2.moreOut, [], 0))
theorem abs_keep (S : AS Msg) (t : UInt32) (m : Msg) : abs (S.keep t m) = (abs S).keep t (pm m) := by
  have e : ((abs S).kept t).isNone = (S.kept t).isNone := by show ((S.kept t).map pm).isNone = _; simp
  unfold AS.keep
  rw [e]
  by_cases h : (S.kept t).isNone = true ∧ t - S.top - 1 < 32
  · rw [if_pos h, if_pos (show (S.kept t).isNone = true ∧ t - (abs S).top - 1 < 32 from h)]
    have : (fun k => (mput S.kept t m k).map pm) = mput (fun k => (S.kept k).map pm) t (pm m) := by
      funext k; unfold mput; split <;> rfl
    unfold abs; simp only [this]
  · rw [if_neg h, if_neg (show ¬ ((S.kept t).isNone = true ∧ t - (abs S).top - 1 < 32) from h)]
theorem abs_step1 (S : AS Msg) : abs S.step1 = (abs S).step1 := by
  have : (fun k => (mdel S.kept (S.top + 1) k).map pm) = mdel (fun k => (S.kept k).map pm) (S.top + 1) := by
    funext k; unfold mdel; split <;> rfl
  unfold AS.step1 abs; simp only [this]
theorem abs_deliver (f : Nat) : ∀ S : AS Msg, ((abs S).deliver f) = ((S.deliver f).1.map pm, abs (S.deliver f).2) := by
  induction f with
  | zero => intro S; rfl
  | succ f ih =>
    intro S
    have e : (abs S).kept ((abs S).top + 1) = (S.kept (S.top + 1)).map pm := rfl
    rw [AS.deliver, e, AS.deliver]
    cases h : S.kept (S.top + 1) with
    | none => rfl
    | some m =>
      simp only [Option.map_some]
      rw [← abs_step1, ih]
      rfl
theorem abs_recv (S : AS Msg) (t : UInt32) (m : Msg) : (abs S).recv t (pm m) = ((S.recv t m).1.map pm, abs (S.recv t m).2) := by
  unfold AS.recv; rw [← abs_keep, abs_deliver]
theorem abs_beyond (S : AS Msg) : (abs S).beyond = S.beyond := by
  unfold AS.beyond
  congr 1
  funext t
  show ((S.kept t).map pm).isSome = _
  simp
theorem abs_sackB (S : AS Msg) : (abs S).sackB = S.sackB := by unfold AS.sackB; rw [abs_beyond]; rfl
theorem abs_win (S : AS Msg) : (abs S).win = S.win := by
  unfold AS.win
  show List.range' S.sent (min (S.queue.map fun x => (pm x.1, x.2)).length 16 - S.sent) = _
  rw [List.length_map]
theorem abs_more (S : AS Msg) : abs S.more = (abs S).more := by
  unfold AS.more
  rw [abs_win]
  have e : (abs S).queue.length = S.queue.length := by show (S.queue.map fun x => (pm x.1, x.2)).length = _; rw [List.length_map]
  rw [e]
  by_cases h : S.win ≠ [] ∧ S.tset = false
  · rw [if_pos h, if_pos (show S.win ≠ [] ∧ (abs S).tset = false from h)]; rfl
  · rw [if_neg h, if_neg (show ¬ (S.win ≠ [] ∧ (abs S).tset = false) from h)]; rfl
theorem abs_cutQ (S : AS Msg) (n : UInt32) : abs (S.cutQ n) = (abs S).cutQ n := by
  unfold AS.cutQ abs; simp only [List.map_drop]
theorem abs_mark (S : AS Msg) (t : UInt32) : abs (S.mark t) = (abs S).mark t := by
  unfold AS.mark
  by_cases h : t - S.base < UInt32.ofNat S.sent
  · rw [if_pos h, if_pos (show t - (abs S).base < UInt32.ofNat (abs S).sent from h)]
    have : (S.queue.modify (t - S.base).toNat fun x => (x.1, true)).map (fun x => (pm x.1, x.2)) = (S.queue.map fun x => (pm x.1, x.2)).modify (t - S.base).toNat fun x => (x.1, true) := by
      apply List.ext_getElem?
      intro j
      rw [List.getElem?_map, List.getElem?_modify, List.getElem?_modify, List.getElem?_map]
      by_cases hj : (t - S.base).toNat = j <;> cases S.queue[j]? <;> simp [hj]
    unfold abs; simp only [this]
  · rw [if_neg h, if_neg (show ¬ t - (abs S).base < UInt32.ofNat (abs S).sent from h)]
theorem abs_marks (l : List UInt32) : ∀ S : AS Msg, abs (l.foldl AS.mark S) = l.foldl AS.mark (abs S) := by
  induction l with
  | nil => intro S; rfl
  | cons t l ih => intro S; rw [List.foldl_cons, List.foldl_cons, ih, abs_mark]
theorem abs_drop1 (S : AS Msg) (c : UInt32) : abs (S.drop1 c) = (abs S).drop1 c := by
  unfold AS.drop1
  have e : (abs S).left c = S.left c := rfl
  rw [e]
  split
  · rw [abs_cutQ]; rfl
  · rfl
theorem abs_ack1 (S : AS Msg) (c : UInt32) (l : List UInt32) : abs (S.ack1 c l) = (abs S).ack1 c l := by
  unfold AS.ack1
  have e : (abs S).left c = S.left c := rfl
  rw [e, ← abs_drop1, ← abs_marks]
  split <;> rfl
theorem abs_taken (S : AS Msg) (m : Msg) (now : Int) : abs (S.taken m now) = (abs S).taken (pm m) now := by
  unfold AS.taken abs; simp
end ac
end Go.Proofs.Ytomplpdeeomehaa


/- assoc: numbers from bytes; the document's Number, walked. -/
namespace Go.Proofs.Ytomplpdeeomehaa
set_option linter.unusedVariables false
set_option linter.unusedSimpArgs false
open Go.RowKit
namespace ac
open rd (num num1)
open Go.Proofs.Ytomplpdeeomehaa.rd.FxWireR
theorem or_add (x y : Nat) (h : y < 256) : x * 256 ||| y = x * 256 + y := by
  have := Nat.two_pow_add_eq_or_of_lt (i := 8) h x
  rw [Nat.mul_comm x 256, this]
theorem num4 (x y z u : UInt8) : (num [x, y, z, u]).toNat = ((x.toNat * 256 + y.toNat) * 256 + z.toNat) * 256 + u.toNat := by
  have hx := x.toNat_lt; have hy := y.toNat_lt; have hz := z.toNat_lt; have hu := u.toNat_lt
  have step : ∀ (n : Nat) (c : UInt8), n < 16777216 → (num1 (UInt32.ofNat n) c) = UInt32.ofNat (n * 256 + c.toNat) := fun n c hn => by
    have hc := c.toNat_lt
    apply UInt32.toNat_inj.1
    rw [UInt32.toNat_ofNat_of_lt' (by show _ < 4294967296; omega)]
    simp only [num1, shl32]
    rw [UInt32.toNat_or, UInt32.toNat_ofNat_of_lt' (show n < 4294967296 by omega)]
    simp
    rw [show n * 256 % 4294967296 = n * 256 by omega, or_add _ _ (by omega)]
  have e : num [x, y, z, u] = UInt32.ofNat (((x.toNat * 256 + y.toNat) * 256 + z.toNat) * 256 + u.toNat) := by
    simp only [num, List.foldl_cons, List.foldl_nil]
    rw [show (0 : UInt32) = UInt32.ofNat 0 from rfl, step 0 x (by omega), step _ y (by omega), step _ z (by omega), step _ u (by omega)]
    rw [Nat.zero_mul, Nat.zero_add]
  rw [e, UInt32.toNat_ofNat_of_lt' (by show _ < 4294967296; omega)]
theorem four {l : List UInt8} {k : Nat} (h : k + 4 ≤ l.length) : ∃ x y z u, (l.drop k).take 4 = [x, y, z, u] ∧ l[k]? = some x := by
  have hd : 4 ≤ (l.drop k).length := by rw [List.length_drop]; omega
  have h0 : (l.drop k)[0]? = l[k]? := by simp
  rcases hl : l.drop k with _ | ⟨x, _ | ⟨y, _ | ⟨z, _ | ⟨u, r⟩⟩⟩⟩ <;> rw [hl] at hd h0 <;> simp at hd
  exact ⟨x, y, z, u, rfl, by rw [← h0]; rfl⟩
end ac
end Go.Proofs.Ytomplpdeeomehaa


/- Arguments that are data meet the rows. No program is named. -/
namespace Go.Proofs.Ytomplpdeeomehaa
set_option linter.unusedVariables false
set_option linter.unusedSimpArgs false
open Go.ChangeShapes Go.WideShapes Go.ChangeAt Go.RowKit
section
variable {H : Type} {enc : TypeId × Value → H} {P : Program} {W : World} {base : Nat} {t e : TypeId} {v : Value} {d : DataW H} {p : List MemPlace} {ts : List TypeId} {ds : List (DataW H)}
theorem open_dat {α : Type} [Dat α] {Bd : α → Prop} (hT : DatT P t α Bd) (j : Nat) (k : DataW.Trod enc P W 0 (fun _ => true) true t v d p)
    (hsz : (DataW.weightsEach P ts ds).all (· ≤ reachBytes) = true) (ht : ts[j]? = some t) (hd : ds[j]? = some d) : ∃ x : α, v.cells.toList = Dat.c x ∧ RdAll W (Dat.g x) ∧ Bd x :=
  hT H enc W _ (Opn.top k hsz ht hd)
theorem open_slice {α : Type} [Dat α] {Bd : Sl α → Prop} (hT : DatT P t (Sl α) Bd) (hu : P.underlying t = some (.slice e)) (j : Nat) (o : Value.okWide P W .any base t v) (k : DataW.Trod enc P W 0 (fun _ => true) true t v d p)
    (hsz : (DataW.weightsEach P ts ds).all (· ≤ reachBytes) = true) (ht : ts[j]? = some t) (hd : ds[j]? = some d) : ∃ x : Sl α, v = x.v ∧ RdAll W (Dat.g x) ∧ Bd x := by
  obtain ⟨a, len, cap, rfl⟩ := okWide_slice hu o
  obtain ⟨x, h1, h2⟩ := open_dat hT j k hsz ht hd
  refine ⟨x, ?_, h2⟩
  have h1 : [Value.slice a len cap] = [x.v] := h1
  exact List.head_eq_of_cons_eq h1
theorem DatT.bytes (ht : P.underlying t = some (.slice e)) (he : P.underlying e = some (.int .u8)) (hc : P.cellsOf e = 1) (hB : P.bytesOf e = 1) : DatT P t Bs (fun s => s.l.length ≤ reachBytes) := fun H enc W cs ho => by
  obtain ⟨x, h1, h2, h3⟩ := DatT.slice (α := UInt8) ht hc hB (DatT.u8 he) H enc W cs ho
  exact ⟨x, h1, h2, by simpa using h3.1⟩
theorem SA.dat_arg {α : Type} [Dat α] {x : α} (h : RdAll W (Dat.g x)) : ∃ R, (SA.dat x).p W (fun _ => False) R ∧ ∀ k, R k → k < W.heap.size := h.st
theorem in_last {A : SA} : ∀ As : List SA, In A (As ++ [A])
  | [] => In.here
  | _ :: As => In.there (in_last As)
theorem Fn.topD {f : FuncId} {args : List Value} {As : List SA} (h : Fn P f args (As ++ [SA.old W]) (fun v L' => v = .bool true ∧ L' = As ++ [SA.old W])) (hA : ∀ A, In A As → ∃ R, A.p W (fun _ => False) R ∧ ∀ k, R k → k < W.heap.size) :
    Calls P f args.toArray W fun e w' => e = .returned (.bool true) ∧ Fr [] W w' :=
  Fn.top (As := As) (h.mono fun v L' ⟨e1, e2⟩ => ⟨L', Ent.refl, e1, e2 ▸ in_last As⟩) hA
end
end Go.Proofs.Ytomplpdeeomehaa


/- assoc: awake; nil sides. -/
namespace Go.Proofs.Ytomplpdeeomehaa
set_option linter.unusedVariables false
set_option linter.unusedSimpArgs false
open Go.RowKit
namespace ac
open wr (be16 be32)
open Go.Proofs.Ytomplpdeeomehaa.ac.FxAsV Go.Proofs.Ytomplpdeeomehaa.rd.FxWireR Go.Proofs.Ytomplpdeeomehaa.ac.FxAsC
set_option maxHeartbeats 1000000 in
--REG rostrum/rostrumlaw20.awake : _ _ ⟨rfl, rfl⟩ => (ac.awake_fn _)
theorem awake_fn (L : List SA) : Fn Try.prog 10 [] L (fun v L' => v = .bool true ∧ L' = L) := by
  refine Fn.of (N := 45) Try.func10 rfl rfl ?_
  intro Xh
  refine TC.seq (TC.region ?_)
  refine TL.sg ?_
  refine TL.nil (TQ.next (TC.seq (TC.region ?_)))
  refine TL.to (Ent.trans (Ent.nilOwn 0 1) Ent.freeze) ?_
  refine TL.eff rfl rfl rfl (X.cl rfl Try.func11 rfl (h := (New_fn 5 9 none 0 0 [] rfl (by decide) _))) ?_
  rintro _ _ ⟨b6, p6, rfl, rfl⟩
  refine TL.sg ?_
  refine TL.nil (TQ.next (TC.seq (TC.region ?_)))
  refine TL.mv ?_
  refine TL.eff rfl rfl rfl (X.cl rfl Try.func23 rfl (h := (Start_yes b6 p6 (newS 5 9 []) 0 rfl _))) ?_
  rintro _ _ ⟨wa, wc, ha, hc, rfl, rfl⟩
  refine TL.mv ?_
  refine TL.val rfl rfl rfl (Y.extract rfl rfl rfl) ?_
  refine TL.as (.slice wa 16 wc) (by rfl) ?_
  refine TL.val rfl rfl rfl (Y.extract rfl rfl rfl) ?_
  refine TL.as (vN 0) (by rfl) ?_
  refine TL.sg ?_
  refine TL.sg ?_
  refine TL.nil (TQ.next (TC.seq ?_))
  refine TC.know (owns_some (a := wa) (n := 16) inn (by omega)) ?_
  rintro ⟨g, off, rfl⟩
  refine TC.region ?_
  refine TL.mv ?_
  refine TL.eff rfl rfl rfl (X.cl rfl Try.func23 rfl (h := (Start_no b6 { p6 with ha := ha, hc := hc } ((newS 5 9 []).started 0) 0 (by decide) _))) ?_
  rintro _ _ ⟨rfl, rfl⟩
  refine TL.mv ?_
  refine TL.val rfl rfl rfl (Y.extract rfl rfl rfl) ?_
  refine TL.val rfl rfl rfl (Y.extract rfl rfl rfl) ?_
  refine TL.as (vN 9) (by rfl) ?_
  refine TL.sg ?_
  refine TL.sg ?_
  refine TL.nil (TQ.next (TC.seq (TC.region ?_)))
  refine TL.mv ?_
  refine TL.val rfl rfl rfl (Y.bin rfl rfl rfl (br_eqN (n := 0))) ?_
  refine TL.is true isf ?_
  refine TL.mv ?_
  refine TL.mg ?_
  refine TL.valG rfl rfl rfl (Y.bin rfl rfl rfl (br_eqN (n := 9))) ?_
  refine TL.is true isf ?_
  refine TL.val rfl rfl rfl (Y.pick_t rfl rfl rfl) ?_
  refine TL.mv ?_
  refine TL.mg ?_
  refine TL.valG rfl rfl rfl (Y.len rfl Try.underlying23 rfl) ?_
  refine TL.valG rfl rfl rfl (Y.bin rfl rfl rfl (br_eqN (n := 16))) ?_
  refine TL.is true isf ?_
  refine TL.val rfl rfl rfl (Y.pick_t rfl rfl rfl) ?_
  refine TL.mv ?_
  refine TL.mg ?_
  refine TL.valG rfl rfl rfl (by first | exact Y.indexSlB (j := 4) rfl sl23 rfl rfl (by omega) nqq | exact Y.indexSl (j := 4) rfl sl23 rfl rfl (by omega) nqq) ?_
  refine TL.valG rfl rfl rfl (Y.load rfl sc5 rfl cel8) ?_
  refine TL.valG rfl rfl rfl (Y.bin rfl rfl rfl (br_eq8 (y := 1))) ?_
  refine TL.is true isf ?_
  refine TL.val rfl rfl rfl (Y.pick_t rfl rfl rfl) ?_
  refine TL.mv ?_
  refine TL.mg ?_
  refine TL.valG rfl rfl rfl (by first | exact Y.indexSlB (j := 11) rfl sl23 rfl rfl (by omega) nqq | exact Y.indexSl (j := 11) rfl sl23 rfl rfl (by omega) nqq) ?_
  refine TL.valG rfl rfl rfl (Y.load rfl sc5 rfl cel8) ?_
  refine TL.valG rfl rfl rfl (Y.bin rfl rfl rfl (br_eq8 (y := 5))) ?_
  refine TL.is true isf ?_
  refine TL.val rfl rfl rfl (Y.pick_t rfl rfl rfl) ?_
  refine TL.mv ?_
  refine TL.mg ?_
  refine TL.effG rfl rfl rfl (X.cl rfl Try.func14 rfl (h := (State_fn b6 { p6 with ha := ha, hc := hc } ((newS 5 9 []).started 0) _))) ?_
  rintro _ _ ⟨rfl, rfl⟩
  refine TL.valG rfl rfl rfl (Y.bin rfl rfl rfl (br_eqN (n := 1))) ?_
  refine TL.is true isf ?_
  refine TL.val rfl rfl rfl (Y.pick_t rfl rfl rfl) ?_
  refine TL.sg ?_
  refine TL.nil (TQ.next (TC.ret ?_))
  refine TQ.retE (res1 rfl rfl) (⟨rfl, rfl⟩) ?_
  exact ett
variable {H : Type} {enc : TypeId × Value → H} {W : World} {base : Nat}
end ac
end Go.Proofs.Ytomplpdeeomehaa


/- assoc: Handle of an idle side; the statement on guards. -/
namespace Go.Proofs.Ytomplpdeeomehaa
set_option linter.unusedVariables false
set_option linter.unusedSimpArgs false
open Go.RowKit
namespace ac
open wr (be16 be32)
open rd (num)
--FACTS
theorem kinds {l : List UInt8} {kd : UInt32} (h : Formed l kd) : kd = 1 ∨ kd = 2 ∨ kd = 3 ∨ kd = 4 ∨ kd = 5 ∨ kd = 6 ∨ kd = 7 := by
  have h1 : kd.toNat < 256 := by
    rw [← h.kind, shr32, UInt32.toNat_ofNat_of_lt' (by have := (n32 l 4).toNat_lt; show _ < 4294967296; omega)]
    have := (n32 l 4).toNat_lt; omega
  have h2 : kd.toUInt8.toNat = kd.toNat := by simp; omega
  have key : ∀ j : UInt8, ∀ k : UInt32, j.toNat = k.toNat → kd.toUInt8 = j → kd = k := fun j k e h3 => UInt32.toNat_inj.1 (by rw [← h2, h3, e])
  have hf := h.fits
  unfold fitsB at hf
  split at hf
  · rename_i e; exact .inl (key 1 1 rfl e)
  split at hf
  · rename_i e; exact .inr (.inl (key 2 2 rfl e))
  split at hf
  · rename_i e; exact .inr (.inr (.inl (key 3 3 rfl e)))
  split at hf
  · rename_i e
    rcases e with e | e
    · exact .inr (.inr (.inr (.inl (key 4 4 rfl e))))
    · exact .inr (.inr (.inr (.inr (.inr (.inr (key 7 7 rfl e))))))
  split at hf
  · rename_i e; exact .inr (.inr (.inr (.inr (.inl (key 5 5 rfl e)))))
  split at hf
  · rename_i e; exact .inr (.inr (.inr (.inr (.inr (.inl (key 6 6 rfl e))))))
  · cases hf
theorem formed_or (l : List UInt8) (h8 : 8 ≤ l.length) : (n32 l 4 &&& 16777215 ≠ 0 ∨ fitsB (shr32 (n32 l 4) 24).toUInt8 (l.length - 8) = false ∨ decide (n32 l 0 = 0) ≠ decide (shr32 (n32 l 4) 24 = 1)) ∨ Formed l (shr32 (n32 l 4) 24) := by
  by_cases h1 : n32 l 4 &&& 16777215 = 0
  · by_cases h2 : fitsB (shr32 (n32 l 4) 24).toUInt8 (l.length - 8) = true
    · by_cases h3 : decide (n32 l 0 = 0) = decide (shr32 (n32 l 4) 24 = 1)
      · exact .inr ⟨h8, h1, rfl, h2, h3⟩
      · exact .inl (.inr (.inr h3))
    · exact .inl (.inr (.inl (by simpa using h2)))
  · exact .inl (.inl h1)
section
variable (b : Nat) (p : AP) (S : AS Msg) (a : Option Addr) (n cap : Nat) (l : List UInt8) (hn : l.length = n) (hl : n ≤ 140737488351232) (now : Int) (h0 : S.state = 0) (hsec : S.secret.length ≤ 140737488351232)
include hn hl h0 hsec
end
end ac
end Go.Proofs.Ytomplpdeeomehaa


/- assoc: a side as one atom; Handle, whole. -/
namespace Go.Proofs.Ytomplpdeeomehaa
set_option linter.unusedVariables false
set_option linter.unusedSimpArgs false
open Go.RowKit
namespace ac
open wr (be16 be32)
open rd (num)
--FACTS
structure InvP (S : PS) : Prop where
  sent : S.sent ≤ S.queue.length
  s16 : S.sent ≤ 16
  q32 : S.queue.length ≤ 32
  near : S.Win 32
  secret : S.secret.length ≤ 140737488351232
  shake : S.shake.length ≤ 1000
  fires : S.fires ≤ 8
  delay : 0 ≤ S.delay ∧ S.delay ≤ 8000
  short : ∀ x ∈ S.queue, x.1.2.2.length ≤ 1024
theorem InvP.shortT {T : AS Msg} (h : InvP (abs T)) : Short T := ⟨fun x hx => h.short (pm x.1, x.2) (List.mem_map_of_mem (f := fun x : Itm => (pm x.1, x.2)) hx)⟩
theorem InvP.lenT {T : AS Msg} : (abs T).queue.length = T.queue.length := List.length_map _
theorem InvP.nearT {T : AS Msg} (h : InvP (abs T)) : T.Win 32 := fun k hk => h.near k (by show ((T.kept k).map pm).isSome = true; simpa using hk)
def SD (b : Nat) (S : PS) : SA := SA.ex fun x : AP × AS Msg => SA.star (SA.pure (abs x.2 = S)) (SA.all [aB b x.1 x.2, aS x.1 x.2, aM x.1 x.2, aQ x.1 x.2, aD x.2, aH x.1 x.2])
theorem Ent.SD {b : Nat} {p : AP} {T : AS Msg} {S : PS} {L : List SA} (h : abs T = S) : Ent (aB b p T :: aS p T :: aM p T :: aQ p T :: aD T :: aH p T :: L) (ac.SD b S :: L) :=
  (Ent.doall [aB b p T, aS p T, aM p T, aQ p T, aD T, aH p T]).trans ((Ent.pureE h).trans (Ent.unstarE.trans (Ent.exE (f := fun x : AP × AS Msg => SA.star (SA.pure (abs x.2 = S)) (SA.all [aB b x.1 x.2, aS x.1 x.2, aM x.1 x.2, aQ x.1 x.2, aD x.2, aH x.1 x.2])) (p, T))))
theorem SD_st {b : Nat} {S : PS} {L : List SA} {w : World} (h : St (SD b S :: L) w) : ∃ p T, abs T = S ∧ St (aB b p T :: aS p T :: aM p T :: aQ p T :: aD T :: aH p T :: L) w := by
  obtain ⟨⟨p, T⟩, h1⟩ := St.ex h
  obtain ⟨h2, h3⟩ := St.pure (St.star h1)
  exact ⟨p, T, h2, (Ent.unall [aB b p T, aS p T, aM p T, aQ p T, aD T, aH p T]).st h3⟩
theorem Fn.SD {P : Program} {f : FuncId} {args : List Value} {R : Value → List SA → Prop} {b : Nat} {S : PS} {L : List SA} (h : ∀ p T, abs T = S → Fn P f args (aB b p T :: aS p T :: aM p T :: aQ p T :: aD T :: aH p T :: L) R) : Fn P f args (ac.SD b S :: L) R := fun X w hw => by
  obtain ⟨p, T, hT, h1⟩ := SD_st (St.up1 hw)
  refine h p T hT X w ?_
  exact (show Ent (aB b p T :: aS p T :: aM p T :: aQ p T :: aD T :: aH p T :: X :: L) (X :: aB b p T :: aS p T :: aM p T :: aQ p T :: aD T :: aH p T :: L) by exact ett).st h1
theorem handle_bad {S : PS} {now : Int} {l : List UInt8} (h : l.length < 8 ∨ n32 l 4 &&& 16777215 ≠ 0 ∨ fitsB (shr32 (n32 l 4) 24).toUInt8 (l.length - 8) = false ∨ (decide (n32 l 0 = 0) ≠ decide (shr32 (n32 l 4) 24 = 1))) : S.handle now l = (S.clocked now, [], [], 2) := by
  unfold AS.handle
  simp only
  rw [if_pos h]
theorem handle_ok {S : PS} {now : Int} {l : List UInt8} {kd : UInt32} (h : Formed l kd) : S.handle now l = (S.clocked now).handle2 l kd := by
  unfold AS.handle
  simp only [h.kind]
  rw [if_neg (by
    rintro (h1 | h1 | h1 | h1)
    · have := h.len; omega
    · exact h1 h.low
    · rw [h.fits] at h1; cases h1
    · exact h1 h.tagged)]
  rfl
section
variable {S : PS} {l : List UInt8}
theorem handle2_z {kd : UInt32} (h2 : kd ≤ 2) (h : n32 l 8 = 0) : S.handle2 l kd = (S, [], [], 2) := by unfold AS.handle2; rw [if_pos ⟨h2, h⟩]
theorem handle2_1n (h : n32 l 8 ≠ 0) (h0 : S.state ≠ 0) (h3 : S.state ≠ 3) : S.handle2 l 1 = (S, [], [], 9) := by unfold AS.handle2; rw [if_neg (fun x => h x.2), if_pos rfl, if_pos ⟨h0, h3⟩]
theorem handle2_1y (h : n32 l 8 ≠ 0) (hs : S.state = 0 ∨ S.state = 3) : S.handle2 l 1 = (S, [S.initAckB (n32 l 8) (n32 l 12)], [], 0) := by unfold AS.handle2; rw [if_neg (fun x => h x.2), if_pos rfl, if_neg (fun x => hs.elim x.1 x.2)]
theorem handle2_a {kd : UInt32} (h : ¬ (kd ≤ 2 ∧ n32 l 8 = 0)) (h1 : kd ≠ 1) (ht : n32 l 0 ≠ S.tag) : S.handle2 l kd = (S, [], [], 4) := by unfold AS.handle2; rw [if_neg h, if_neg h1, if_pos ht]
theorem handle2_2 (h : n32 l 8 ≠ 0) (ht : n32 l 0 = S.tag) : S.handle2 l 2 = if S.state ≠ 1 then (S, [], [], 9) else (S.echo (n32 l 8) (n32 l 12) (l.drop 16), [echoB (n32 l 8) (l.drop 16)], [], 0) := by unfold AS.handle2; rw [if_neg (fun x => h x.2), if_neg (by decide), if_neg (fun x => x ht), if_pos rfl]
theorem handle2_3 (ht : n32 l 0 = S.tag) : S.handle2 l 3 = if l.drop 8 ≠ cookieB S (n32 l 8) (n32 l 12) then (S, [], [], 4) else if S.state = 0 then (S.opened (n32 l 8) (n32 l 12), [pkt (n32 l 8) 4], [], 0) else if S.state ≠ 3 ∨ S.other ≠ n32 l 8 then (S, [], [], 9) else (S, [pkt S.other 4], [], 0) := by
  unfold AS.handle2; rw [if_neg (fun x => absurd x.1 (by decide)), if_neg (by decide), if_neg (fun x => x ht), if_neg (by decide), if_pos rfl]
theorem handle2_4 (ht : n32 l 0 = S.tag) : S.handle2 l 4 = if S.state = 2 then ({ S with state := 3, tset := false }, [], [], 0) else if S.state = 3 then (S, [], [], 0) else (S, [], [], 9) := by
  unfold AS.handle2; rw [if_neg (fun x => absurd x.1 (by decide)), if_neg (by decide), if_neg (fun x => x ht), if_neg (by decide), if_neg (by decide), if_pos rfl]
theorem handle2_7 (ht : n32 l 0 = S.tag) : S.handle2 l 7 = ({ S with state := 4, tset := false }, [], [], 0) := by
  unfold AS.handle2; rw [if_neg (fun x => absurd x.1 (by decide)), if_neg (by decide), if_neg (fun x => x ht), if_neg (by decide), if_neg (by decide), if_neg (by decide), if_pos rfl]
theorem handle2_n {kd : UInt32} (hk : kd = 5 ∨ kd = 6) (ht : n32 l 0 = S.tag) (hs : S.state ≠ 3) : S.handle2 l kd = (S, [], [], 9) := by
  rcases hk with rfl | rfl <;> (unfold AS.handle2; rw [if_neg (fun x => absurd x.1 (by decide)), if_neg (by decide), if_neg (fun x => x ht), if_neg (by decide), if_neg (by decide), if_neg (by decide), if_neg (by decide), if_pos hs])
theorem handle2_5 (ht : n32 l 0 = S.tag) (hs : S.state = 3) : S.handle2 l 5 = ((S.recv (n32 l 8) ((num ((l.drop 12).take 2)).toUInt16, n32 l 14, l.drop 18)).2, [(S.recv (n32 l 8) ((num ((l.drop 12).take 2)).toUInt16, n32 l 14, l.drop 18)).2.sackB], (S.recv (n32 l 8) ((num ((l.drop 12).take 2)).toUInt16, n32 l 14, l.drop 18)).1, 0) := by
  unfold AS.handle2; rw [if_neg (fun x => absurd x.1 (by decide)), if_neg (by decide), if_neg (fun x => x ht), if_neg (by decide), if_neg (by decide), if_neg (by decide), if_neg (by decide), if_neg (fun x => x hs), if_pos rfl]
theorem handle2_6 (ht : n32 l 0 = S.tag) (hs : S.state = 3) : S.handle2 l 6 = ((S.ack1 (n32 l 8) (words (l.drop 12))).more, (S.ack1 (n32 l 8) (words (l.drop 12))).moreOut, [], 0) := by
  unfold AS.handle2; rw [if_neg (fun x => absurd x.1 (by decide)), if_neg (by decide), if_neg (fun x => x ht), if_neg (by decide), if_neg (by decide), if_neg (by decide), if_neg (by decide), if_neg (fun x => x hs), if_neg (by decide)]
end
section
variable {μ : Type} (S : AS μ)
theorem marks_same (l : List UInt32) : ∀ S : AS μ, (l.foldl AS.mark S).secret = S.secret ∧ (l.foldl AS.mark S).kept = S.kept ∧ (l.foldl AS.mark S).shake = S.shake := by
  induction l with
  | nil => intro S; exact ⟨rfl, rfl, rfl⟩
  | cons t l ih =>
    intro S
    have h := ih (S.mark t)
    have h2 : (S.mark t).secret = S.secret ∧ (S.mark t).kept = S.kept ∧ (S.mark t).shake = S.shake := by unfold AS.mark; split <;> exact ⟨rfl, rfl, rfl⟩
    exact ⟨h.1.trans h2.1, h.2.1.trans h2.2.1, h.2.2.trans h2.2.2⟩
theorem ack1_same (c : UInt32) (l : List UInt32) : (S.ack1 c l).secret = S.secret ∧ (S.ack1 c l).kept = S.kept ∧ (S.ack1 c l).shake = S.shake := by
  have h := marks_same l (S.drop1 c)
  have h2 : (S.drop1 c).secret = S.secret ∧ (S.drop1 c).kept = S.kept ∧ (S.drop1 c).shake = S.shake := by unfold AS.drop1; split <;> exact ⟨rfl, rfl, rfl⟩
  have h3 : (S.ack1 c l).secret = (l.foldl AS.mark (S.drop1 c)).secret ∧ (S.ack1 c l).kept = (l.foldl AS.mark (S.drop1 c)).kept ∧ (S.ack1 c l).shake = (l.foldl AS.mark (S.drop1 c)).shake := by unfold AS.ack1; split <;> exact ⟨rfl, rfl, rfl⟩
  exact ⟨h3.1.trans (h.1.trans h2.1), h3.2.1.trans (h.2.1.trans h2.2.1), h3.2.2.trans (h.2.2.trans h2.2.2)⟩
theorem more_same : S.more.secret = S.secret ∧ S.more.kept = S.kept ∧ S.more.shake = S.shake ∧ S.more.queue = S.queue := by unfold AS.more; split <;> exact ⟨rfl, rfl, rfl, rfl⟩
end
theorem keep_same {μ : Type} (S : AS μ) (t : UInt32) (m : μ) : (S.keep t m).secret = S.secret ∧ (S.keep t m).queue = S.queue ∧ (S.keep t m).shake = S.shake := by unfold AS.keep; split <;> exact ⟨rfl, rfl, rfl⟩
theorem deliver_same {μ : Type} (f : Nat) : ∀ S : AS μ, (S.deliver f).2.secret = S.secret ∧ (S.deliver f).2.queue = S.queue ∧ (S.deliver f).2.shake = S.shake := by
  induction f with
  | zero => intro S; exact ⟨rfl, rfl, rfl⟩
  | succ f ih =>
    intro S
    rw [AS.deliver]
    cases S.kept (S.top + 1) with
    | none => exact ⟨rfl, rfl, rfl⟩
    | some m => exact ih S.step1
theorem recv_same {μ : Type} (S : AS μ) (t : UInt32) (m : μ) : (S.recv t m).2.secret = S.secret ∧ (S.recv t m).2.queue = S.queue ∧ (S.recv t m).2.shake = S.shake := by
  have h := deliver_same 33 (S.keep t m)
  have h2 := keep_same S t m
  exact ⟨h.1.trans h2.1, h.2.1.trans h2.2.1, h.2.2.trans h2.2.2⟩
theorem Ent.recv {b : Nat} {p : AP} {T X : AS Msg} {R : SA} {L : List SA} (hx : X.secret = T.secret ∧ X.queue = T.queue ∧ X.shake = T.shake) :
    Ent (aB b p X :: aM p X :: R :: aS p T :: aQ p T :: aD T :: aH p T :: L) (aB b p X :: aS p X :: aM p X :: aQ p X :: aD X :: aH p X :: R :: L) := by
  obtain ⟨h1, h2, h3⟩ := hx
  have eS : aS p T = aS p X := by simp only [aS, h1]
  have eQ : aQ p T = aQ p X := by simp only [aQ, h2]
  have eD : aD T = aD X := by simp only [aD, h2]
  have eH : aH p T = aH p X := by simp only [aH, h3]
  rw [eS, eQ, eD, eH]
  generalize aS p X = A1
  generalize aM p X = A2
  generalize aH p X = A3
  generalize aQ p X = A4
  generalize aD X = A5
  generalize aB b p X = A6
  exact ett
theorem Ent.echo {B H' R S M Q D H : SA} {L : List SA} : Ent (B :: H' :: R :: S :: M :: Q :: D :: H :: L) (B :: S :: M :: Q :: D :: H' :: R :: L) :=
  Ent.trans (show Ent (B :: H' :: R :: S :: M :: Q :: D :: H :: L) (H :: B :: S :: M :: Q :: D :: H' :: R :: L) by exact ett) Ent.drop
theorem Ent.more {b : Nat} {p p' : AP} {T X : AS Msg} {R : SA} {L : List SA} (e1 : p'.sa = p.sa) (e2 : p'.sc = p.sc) (e3 : p'.mb = p.mb) (e4 : p'.ha = p.ha) (e5 : p'.hc = p.hc) (hx : X.secret = T.secret ∧ X.kept = T.kept ∧ X.shake = T.shake) :
    Ent (aB b p' X.more :: aQ p' X :: aD X :: R :: aS p T :: aM p T :: aH p T :: L) (aB b p' X.more :: aS p' X.more :: aM p' X.more :: aQ p' X.more :: aD X.more :: aH p' X.more :: R :: L) := by
  obtain ⟨h1, h2, h3⟩ := hx
  obtain ⟨m1, m2, m3, m4⟩ := more_same X
  have eS : aS p T = aS p' X.more := by simp only [aS, m1, h1, e1, e2]
  have eM : aM p T = aM p' X.more := by simp only [aM, m2, h2, e3]
  have eH : aH p T = aH p' X.more := by simp only [aH, m3, h3, e4, e5]
  have eQ : aQ p' X = aQ p' X.more := by simp only [aQ, m4]
  have eD : aD X = aD X.more := by simp only [aD, m4]
  rw [eS, eM, eH, eQ, eD]
  generalize aS p' X.more = A1
  generalize aM p' X.more = A2
  generalize aH p' X.more = A3
  generalize aQ p' X.more = A4
  generalize aD X.more = A5
  generalize aB b p' X.more = A6
  exact ett
section
variable (b : Nat) (S : PS) (hI : InvP S) (a : Option Addr) (n cap : Nat) (l : List UInt8) (hn : l.length = n) (hl : n ≤ 140737488351232) (now : Int)
include hI hn hl
set_option maxHeartbeats 2000000 in
theorem Handle_fn (L : List SA) : Fn Try.prog 12 [pt b 0, .slice a n cap, vI now] (SD b S :: SA.rds 1 (.slice a n cap) n (l.map v8) :: L)
    (fun v L' => ∃ (o : Sl Bs) (g : Sl Msg), v = .tuple #[o.v, g.v, vN (S.handle now l).2.2.2] ∧ o.l.map (·.l) = (S.handle now l).2.1 ∧ g.l.map pm = (S.handle now l).2.2.1 ∧ L' = SA.dat o :: SA.dat g :: SD b (S.handle now l).1 :: SA.rds 1 (.slice a n cap) n (l.map v8) :: L) := by
  refine Fn.SD fun p T hT => ?_
  subst hT
  -- an answer of nothing
  have no : ∀ (e : Nat) (T' : AS Msg), (abs T).handle now l = (abs T', [], [], e) → ∀ L2 : List SA, Ent (aB b p T' :: L2) (aB b p T' :: aS p T' :: aM p T' :: aQ p T' :: aD T' :: aH p T' :: SA.rds 1 (.slice a n cap) n (l.map v8) :: L) → ∀ v L', (v = noOut e ∧ L' = aB b p T' :: L2) → ∃ L'', Ent L' L'' ∧ ∃ (o : Sl Bs) (g : Sl Msg), v = .tuple #[o.v, g.v, vN ((abs T).handle now l).2.2.2] ∧ o.l.map (·.l) = ((abs T).handle now l).2.1 ∧ g.l.map pm = ((abs T).handle now l).2.2.1 ∧ L'' = SA.dat o :: SA.dat g :: SD b ((abs T).handle now l).1 :: SA.rds 1 (.slice a n cap) n (l.map v8) :: L := by
    rintro e T' he L2 hE v L' ⟨rfl, rfl⟩
    rw [he]
    exact ⟨_, hE.trans ((Ent.SD rfl).trans ((Ent.nilD (α := Msg)).trans (Ent.nilD (α := Bs)))), ⟨none, 0, []⟩, ⟨none, 0, []⟩, rfl, rfl, rfl, rfl⟩
  -- one packet
  have one : ∀ (o : Sl Bs) (p' : AP) (T' : AS Msg) (out : List (List UInt8)), (abs T).handle now l = (abs T', out, [], 0) → o.l.map (·.l) = out → ∀ L2 : List SA, Ent L2 (SA.dat o :: aB b p' T' :: aS p' T' :: aM p' T' :: aQ p' T' :: aD T' :: aH p' T' :: SA.rds 1 (.slice a n cap) n (l.map v8) :: L) → ∃ L'', Ent L2 L'' ∧ ∃ (o1 : Sl Bs) (g : Sl Msg), Value.tuple #[o.v, .slice none 0 0, vN 0] = .tuple #[o1.v, g.v, vN ((abs T).handle now l).2.2.2] ∧ o1.l.map (·.l) = ((abs T).handle now l).2.1 ∧ g.l.map pm = ((abs T).handle now l).2.2.1 ∧ L'' = SA.dat o1 :: SA.dat g :: SD b ((abs T).handle now l).1 :: SA.rds 1 (.slice a n cap) n (l.map v8) :: L := by
    rintro o p' T' out he ho L2 hE
    rw [he]
    exact ⟨_, hE.trans ((Ent.under _ (Ent.SD rfl)).trans ((Ent.nilD (α := Msg)).trans Ent.swap)), o, ⟨none, 0, []⟩, rfl, ho, rfl, rfl⟩
  have hsec : T.secret.length ≤ 140737488351232 := hI.secret
  by_cases h8 : 8 ≤ l.length
  · rcases formed_or l h8 with hb | hF
    · refine Fn.preE (L' := aB b p T :: SA.rds 1 (.slice a n cap) n (l.map v8) :: aS p T :: aM p T :: aQ p T :: aD T :: aH p T :: L) (by exact ett) ((H_form b p T a n cap l hn hl now h8 hb _).mono (no 2 (T.clocked now) (handle_bad (.inr hb)) _ ?_))
      exact show Ent (aB b p (T.clocked now) :: SA.rds 1 (.slice a n cap) n (l.map v8) :: aS p T :: aM p T :: aQ p T :: aD T :: aH p T :: L) (aB b p (T.clocked now) :: aS p T :: aM p T :: aQ p T :: aD T :: aH p T :: SA.rds 1 (.slice a n cap) n (l.map v8) :: L) by exact ett
    · generalize hkd : shr32 (n32 l 4) 24 = kd at hF
      have hh : (abs T).handle now l = (abs (T.clocked now)).handle2 l kd := handle_ok hF
      have pre1 : Ent (aB b p T :: aS p T :: aM p T :: aQ p T :: aD T :: aH p T :: SA.rds 1 (.slice a n cap) n (l.map v8) :: L) (aB b p T :: SA.rds 1 (.slice a n cap) n (l.map v8) :: aS p T :: aM p T :: aQ p T :: aD T :: aH p T :: L) := by exact ett
      have pre5 : Ent (aB b p T :: aS p T :: aM p T :: aQ p T :: aD T :: aH p T :: SA.rds 1 (.slice a n cap) n (l.map v8) :: L) (aB b p T :: SA.rds 1 (.slice a n cap) n (l.map v8) :: aM p T :: aS p T :: aQ p T :: aD T :: aH p T :: L) := by exact ett
      have pre6 : Ent (aB b p T :: aS p T :: aM p T :: aQ p T :: aD T :: aH p T :: SA.rds 1 (.slice a n cap) n (l.map v8) :: L) (aB b p T :: SA.rds 1 (.slice a n cap) n (l.map v8) :: aQ p T :: aD T :: aS p T :: aM p T :: aH p T :: L) := by exact ett
      have bk : ∀ T' : AS Msg, Ent (aB b p T' :: SA.rds 1 (.slice a n cap) n (l.map v8) :: aS p T :: aM p T :: aQ p T :: aD T :: aH p T :: L) (aB b p T' :: aS p T :: aM p T :: aQ p T :: aD T :: aH p T :: SA.rds 1 (.slice a n cap) n (l.map v8) :: L) := fun T' => by generalize aB b p T' = A6; exact ett
      have bkS : ∀ T' : AS Msg, Ent (aB b p T' :: aS p T :: SA.rds 1 (.slice a n cap) n (l.map v8) :: aM p T :: aQ p T :: aD T :: aH p T :: L) (aB b p T' :: aS p T :: aM p T :: aQ p T :: aD T :: aH p T :: SA.rds 1 (.slice a n cap) n (l.map v8) :: L) := fun T' => by generalize aB b p T' = A6; exact ett
      rcases kinds hF with rfl | rfl | rfl | rfl | hk | hk | rfl
      · by_cases hz : n32 l 8 = 0
        · exact Fn.preE pre1 ((H_zero1 b p T a n cap l hn hl now 1 hF rfl hz _).mono (no 2 (T.clocked now) (hh.trans (handle2_z (by decide) hz)) _ (bk _)))
        · by_cases hs : T.state = 0 ∨ T.state = 3
          · refine Fn.preE pre1 ((H_init_yes b p T a n cap l hn hl now 1 hF rfl hz hs hsec _).mono ?_)
            rintro v L' ⟨o, rfl, ho, rfl⟩
            exact one o p (T.clocked now) _ (hh.trans (handle2_1y hz hs)) ho _ (Ent.under _ (bkS _))
          · exact Fn.preE pre1 ((H_init_no b p T a n cap l hn hl now 1 hF rfl hz (fun h => hs (.inl h)) (fun h => hs (.inr h)) _).mono (no 9 (T.clocked now) (hh.trans (handle2_1n hz (fun h => hs (.inl h)) (fun h => hs (.inr h)))) _ (bk _)))
      · by_cases hz : n32 l 8 = 0
        · exact Fn.preE pre1 ((H_zero2 b p T a n cap l hn hl now 2 hF rfl hz _).mono (no 2 (T.clocked now) (hh.trans (handle2_z (by decide) hz)) _ (bk _)))
        · by_cases ht : n32 l 0 = T.tag
          · have h2 := hh.trans (handle2_2 hz (S := abs (T.clocked now)) ht)
            by_cases hs : T.state = 1
            · refine Fn.preE pre1 ((H_ack_yes b p T a n cap l hn hl now 2 hF rfl hz ht hs _).mono ?_)
              rintro v L' ⟨o, ha, hc, rfl, ho, rfl⟩
              exact one o { p with ha := ha, hc := hc } ((T.clocked now).echo (n32 l 8) (n32 l 12) (l.drop 16)) _ (h2.trans (if_neg (fun h => h hs))) ho _ (Ent.under _ Ent.echo)
            · exact Fn.preE pre1 ((H_ack_no b p T a n cap l hn hl now 2 hF rfl hz ht hs _).mono (no 9 (T.clocked now) (h2.trans (if_pos hs)) _ (bk _)))
          · exact Fn.preE pre1 ((H_auth2 b p T a n cap l hn hl now 2 hF rfl hz ht _).mono (no 4 (T.clocked now) (hh.trans (handle2_a (fun h => hz h.2) (by decide) ht)) _ (bk _)))
      · by_cases ht : n32 l 0 = T.tag
        · have h2 := hh.trans (handle2_3 (S := abs (T.clocked now)) ht)
          by_cases hc : l.drop 8 = cookieB (T.clocked now) (n32 l 8) (n32 l 12)
          · have h3 := h2.trans (if_neg (fun h => h hc))
            by_cases hs : T.state = 0
            · refine Fn.preE pre1 ((H_ck_open b p T a n cap l hn hl now 3 hF rfl ht hsec hc hs _).mono ?_)
              rintro v L' ⟨o, rfl, ho, rfl⟩
              exact one o p ((T.clocked now).opened (n32 l 8) (n32 l 12)) _ (h3.trans (if_pos hs)) ho _ (Ent.under _ (bkS _))
            · have h4 := h3.trans (if_neg hs)
              by_cases hs3 : T.state = 3 ∧ T.other = n32 l 8
              · refine Fn.preE pre1 ((H_ck_again b p T a n cap l hn hl now 3 hF rfl ht hsec hc hs3.1 hs3.2 _).mono ?_)
                rintro v L' ⟨o, rfl, ho, rfl⟩
                exact one o p (T.clocked now) _ (h4.trans (if_neg (fun h => h.elim (fun h => h hs3.1) (fun h => h hs3.2)))) ho _ (Ent.under _ (bkS _))
              · have hs4 : T.state ≠ 3 ∨ T.other ≠ n32 l 8 := by
                  by_cases h5 : T.state = 3
                  · exact .inr fun h6 => hs3 ⟨h5, h6⟩
                  · exact .inl h5
                exact Fn.preE pre1 ((H_ck_no b p T a n cap l hn hl now 3 hF rfl ht hsec hc hs hs4 _).mono (no 9 (T.clocked now) (h4.trans (if_pos hs4)) _ (bkS _)))
          · exact Fn.preE pre1 ((H_ck_bad b p T a n cap l hn hl now 3 hF rfl ht hsec hc _).mono (no 4 (T.clocked now) (h2.trans (if_pos hc)) _ (bkS _)))
        · exact Fn.preE pre1 ((H_auth b p T a n cap l hn hl now 3 hF (by decide) ht _).mono (no 4 (T.clocked now) (hh.trans (handle2_a (fun h => absurd h.1 (by decide)) (by decide) ht)) _ (bk _)))
      · by_cases ht : n32 l 0 = T.tag
        · have h2 := hh.trans (handle2_4 (S := abs (T.clocked now)) ht)
          by_cases hs : T.state = 2
          · exact Fn.preE pre1 ((H_cka_open b p T a n cap l hn hl now 4 hF rfl ht hs _).mono (no 0 { T.clocked now with state := 3, tset := false } (h2.trans (if_pos hs)) _ (bk _)))
          · by_cases hs3 : T.state = 3
            · exact Fn.preE pre1 ((H_cka_same b p T a n cap l hn hl now 4 hF rfl ht hs3 _).mono (no 0 (T.clocked now) (h2.trans ((if_neg hs).trans (if_pos hs3))) _ (bk _)))
            · exact Fn.preE pre1 ((H_cka_no b p T a n cap l hn hl now 4 hF rfl ht hs hs3 _).mono (no 9 (T.clocked now) (h2.trans ((if_neg hs).trans (if_neg hs3))) _ (bk _)))
        · exact Fn.preE pre1 ((H_auth b p T a n cap l hn hl now 4 hF (by decide) ht _).mono (no 4 (T.clocked now) (hh.trans (handle2_a (fun h => absurd h.1 (by decide)) (by decide) ht)) _ (bk _)))
      · by_cases ht : n32 l 0 = T.tag
        · by_cases hs : T.state = 3
          · subst hk
            refine Fn.preE pre5 ((H_data b p T a n cap l hn hl now 5 hF rfl ht hs (hI.nearT) _).mono ?_)
            rintro v L' ⟨o, g, ta, tc, rfl, hg, ho, rfl⟩
            have hr := abs_recv (T.clocked now) (n32 l 8) ((num ((l.drop 12).take 2)).toUInt16, n32 l 14, ⟨ta, tc, l.drop 18⟩)
            have h2 := hh.trans (handle2_5 (S := abs (T.clocked now)) ht hs)
            rw [show ((num ((l.drop 12).take 2)).toUInt16, n32 l 14, l.drop 18) = pm ((num ((l.drop 12).take 2)).toUInt16, n32 l 14, ⟨ta, tc, l.drop 18⟩) from rfl, hr] at h2
            rw [h2]
            exact ⟨_, Ent.under _ (Ent.under _ ((Ent.recv (recv_same _ _ _)).trans (Ent.SD rfl))), o, g, rfl, by rw [ho]; exact congrArg (fun x => [x]) (abs_sackB _).symm, by rw [hg], rfl⟩
          · exact Fn.preE pre1 ((H_shut5 b p T a n cap l hn hl now kd hF hk ht hs _).mono (no 9 (T.clocked now) (hh.trans (handle2_n (.inl hk) ht hs)) _ (bk _)))
        · exact Fn.preE pre1 ((H_auth b p T a n cap l hn hl now kd hF (by rw [hk]; decide) ht _).mono (no 4 (T.clocked now) (hh.trans (handle2_a (fun h => absurd h.1 (by rw [hk]; decide)) (by rw [hk]; decide) ht)) _ (bk _)))
      · by_cases ht : n32 l 0 = T.tag
        · by_cases hs : T.state = 3
          · subst hk
            have h2 := hh.trans (handle2_6 (S := abs (T.clocked now)) ht hs)
            rw [← abs_ack1, ← abs_more] at h2
            have hq : T.queue.length ≤ 32 := by have := hI.q32; rwa [InvP.lenT] at this
            have hsq : T.sent ≤ T.queue.length := by have := hI.sent; rwa [InvP.lenT] at this
            have fin : ∀ (v : Value) (L' : List SA), (∃ (o : Sl Bs) (p' : AP), p'.sa = p.sa ∧ p'.sc = p.sc ∧ p'.mb = p.mb ∧ p'.ha = p.ha ∧ p'.hc = p.hc ∧ v = .tuple #[o.v, .slice none 0 0, vN 0] ∧ o.l.map (·.l) = (abs ((T.clocked now).ack1 (n32 l 8) (words (l.drop 12)))).moreOut ∧ L' = SA.dat o :: aB b p' ((T.clocked now).ack1 (n32 l 8) (words (l.drop 12))).more :: aQ p' ((T.clocked now).ack1 (n32 l 8) (words (l.drop 12))) :: aD ((T.clocked now).ack1 (n32 l 8) (words (l.drop 12))) :: SA.rds 1 (.slice a n cap) n (l.map v8) :: aS p T :: aM p T :: aH p T :: L) → ∃ L'', Ent L' L'' ∧ ∃ (o1 : Sl Bs) (g : Sl Msg), v = .tuple #[o1.v, g.v, vN ((abs T).handle now l).2.2.2] ∧ o1.l.map (·.l) = ((abs T).handle now l).2.1 ∧ g.l.map pm = ((abs T).handle now l).2.2.1 ∧ L'' = SA.dat o1 :: SA.dat g :: SD b ((abs T).handle now l).1 :: SA.rds 1 (.slice a n cap) n (l.map v8) :: L := by
              rintro v L' ⟨o, p', e1, e2, e3, e4, e5, rfl, ho, rfl⟩
              exact one o p' ((T.clocked now).ack1 (n32 l 8) (words (l.drop 12))).more _ h2 ho _ (Ent.under _ (Ent.more e1 e2 e3 e4 e5 (ack1_same _ _ _)))
            by_cases hlf : (T.clocked now).left (n32 l 8) = true
            · exact Fn.preE pre6 ((H_sack_left b p T a n cap l hn hl now 6 hF rfl ht hs hI.shortT hsq hI.s16 hq hlf _).mono fin)
            · exact Fn.preE pre6 ((H_sack_not b p T a n cap l hn hl now 6 hF rfl ht hs hI.shortT hsq hI.s16 hq (by simpa using hlf) _).mono fin)
          · exact Fn.preE pre1 ((H_shut6 b p T a n cap l hn hl now kd hF hk ht hs _).mono (no 9 (T.clocked now) (hh.trans (handle2_n (.inr hk) ht hs)) _ (bk _)))
        · exact Fn.preE pre1 ((H_auth b p T a n cap l hn hl now kd hF (by rw [hk]; decide) ht _).mono (no 4 (T.clocked now) (hh.trans (handle2_a (fun h => absurd h.1 (by rw [hk]; decide)) (by rw [hk]; decide) ht)) _ (bk _)))
      · by_cases ht : n32 l 0 = T.tag
        · exact Fn.preE pre1 ((H_abort b p T a n cap l hn hl now 7 hF rfl ht _).mono (no 0 { T.clocked now with state := 4, tset := false } (hh.trans (handle2_7 (S := abs (T.clocked now)) ht)) _ (bk _)))
        · exact Fn.preE pre1 ((H_auth b p T a n cap l hn hl now 7 hF (by decide) ht _).mono (no 4 (T.clocked now) (hh.trans (handle2_a (fun h => absurd h.1 (by decide)) (by decide) ht)) _ (bk _)))
  · refine Fn.preE (L' := aB b p T :: SA.rds 1 (.slice a n cap) n (l.map v8) :: aS p T :: aM p T :: aQ p T :: aD T :: aH p T :: L) (by exact ett) ((H_short b p T a n cap l hn hl now (by omega) _).mono (no 2 (T.clocked now) (handle_bad (.inl (by omega))) _ ?_))
    exact show Ent (aB b p (T.clocked now) :: SA.rds 1 (.slice a n cap) n (l.map v8) :: aS p T :: aM p T :: aQ p T :: aD T :: aH p T :: L) (aB b p (T.clocked now) :: aS p T :: aM p T :: aQ p T :: aD T :: aH p T :: SA.rds 1 (.slice a n cap) n (l.map v8) :: L) by exact ett
end
end ac
end Go.Proofs.Ytomplpdeeomehaa

