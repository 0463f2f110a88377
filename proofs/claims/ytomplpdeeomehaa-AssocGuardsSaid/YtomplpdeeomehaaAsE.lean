/- assoc: the handshake's packets and receive, walked. -/
import Derived.Test.YtomplpdeeomehaaAsD
import Derived.Test.YtomplpdeeomehaaHAuto
namespace Go.Proofs.Ytomplpdeeomehaa
set_option linter.unusedVariables false
set_option linter.unusedSimpArgs false
open Go.RowKit
namespace ac
open wr (be16 be32)
open rd (num rdB rdL rdV)
namespace FxAsE
set_option maxRecDepth 100000
theorem el24 : Elt Try.prog 24 23 1 24 (.slice none 0 0) := ⟨Try.underlying24, by kernel_rfl, rfl, by decide, by simp [Value.cells, Value.oneCell']⟩
theorem fo68_0 : Program.fieldOff Try.prog 68 0 = some 0 := by kernel_rfl
theorem fo68_1 : Program.fieldOff Try.prog 68 1 = some 1 := by kernel_rfl
theorem fo68_13 : Program.fieldOff Try.prog 68 13 = some 16 := by kernel_rfl
theorem fo68_3 : Program.fieldOff Try.prog 68 3 = some 3 := by kernel_rfl
theorem fo68_4 : Program.fieldOff Try.prog 68 4 = some 4 := by kernel_rfl
theorem fo68_5 : Program.fieldOff Try.prog 68 5 = some 5 := by kernel_rfl
theorem fo68_6 : Program.fieldOff Try.prog 68 6 = some 6 := by kernel_rfl
theorem sc22 : Program.isSc Try.prog 22 = true := by kernel_rfl
theorem sc3 : Program.isSc Try.prog 3 = true := by kernel_rfl
theorem sc85 : Program.isSc Try.prog 85 = true := by kernel_rfl
theorem sz85 : (Try.prog.info? 85).map (·.size) = some 1 := by kernel_rfl
theorem zc85 : Program.zeroC Try.prog 85 = some #[.slice none 0 0] := by kernel_rfl
end FxAsE
open FxAsE
theorem Ent.nilD {α : Type} [Dat α] {L : List SA} : Ent L (SA.dat (⟨none, 0, []⟩ : Sl α) :: L) := Ent.trans (Ent.nilOwn 0 (Dat.sz α)) (Ent.trans (Ent.under _ Ent.rdss0) (Ent.mkOwn (l := ([] : List α)) (cells := []) Pull.here Pull.here rfl rfl (by rw [Dat.cs_eq]; rfl)))
theorem Ent.one1 {e e' n g cap : Nat} {a : Option Addr} {l : List UInt8} {L L1 L2 : List SA} (h1 : Pull (SA.owns e 1 (.slice a n cap) n (l.map v8)) L L1) (h2 : Pull (SA.owns e' 1 (.slice (some ⟨g, 0, none⟩) 1 1) 1 [.slice a n cap]) L1 L2) (hn : l.length = n) : Ent L (SA.dat (⟨some ⟨g, 0, none⟩, 1, [⟨a, cap, l⟩]⟩ : Sl Bs) :: L2) := by
  subst hn
  exact Ent.trans Ent.bsNil (Ent.trans (Ent.bsPull (xs := []) (a := a) (cap := cap) (l := l) Pull.here h1 rfl rfl) (Ent.mkJoin (xs := [⟨a, cap, l⟩]) Pull.here h2 rfl rfl))
theorem u32_ok (b : Nat) (l : List UInt8) (h : 4 ≤ l.length) (L : List SA) : Fn Try.prog 27 [pt b 0] (rd.R b l false :: L) (fun v L' => v = v32 (num (l.take 4)) ∧ L' = rd.R b (l.drop 4) false :: L) := by
  have hb : rdB 4 l false = false := by simp [rdB]; omega
  refine (rd.U32_fn b l false L).mono ?_
  rintro v L' ⟨rfl, rfl⟩
  exact ⟨_, Ent.refl, by rw [rdV, hb]; rfl, by rw [rdL, hb]; rfl⟩
theorem u16_ok (b : Nat) (l : List UInt8) (h : 2 ≤ l.length) (L : List SA) : Fn Try.prog 34 [pt b 0] (rd.R b l false :: L) (fun v L' => v = v16 (num (l.take 2)).toUInt16 ∧ L' = rd.R b (l.drop 2) false :: L) := by
  have hb : rdB 2 l false = false := by simp [rdB]; omega
  refine (rd.U16_fn b l false L).mono ?_
  rintro v L' ⟨rfl, rfl⟩
  exact ⟨_, Ent.refl, by rw [rdV, hb]; rfl, by rw [rdL, hb]; rfl⟩
theorem take_ok (b k : Nat) (l : List UInt8) (h : k ≤ l.length) (hl : l.length ≤ 140737488351232) (L : List SA) : Fn Try.prog 35 [pt b 0, vN k] (rd.R b l false :: L) (fun v L' => ∃ a c, v = .slice a k c ∧ L' = SA.owns 5 1 (.slice a k c) k ((l.take k).map v8) :: rd.R b (l.drop k) false :: L) := by
  have hb : rdB k l false = false := by simp [rdB]; omega
  have hk : (l.take k).length = k := by rw [List.length_take]; omega
  refine (rd.Take_fn b k l false (by omega) hl L).mono ?_
  rintro v L' ⟨a, c, rfl, rfl⟩
  rw [rdL, rdV, hb]
  simp only [Bool.false_eq_true, if_false, hk]
  exact ⟨_, Ent.refl, a, c, rfl, rfl⟩
--REG rostrum/assoc.fits : _ _ ⟨rfl, rfl⟩ => (ac.fits_fn _ _ (by omega) _)
theorem fits_fn (k : UInt8) (n : Nat) (hn : n < 9223372036854775808) (L : List SA) : Fn Try.prog 29 [v8 k, vN n] L (fun v L' => v = .bool (fitsB k n) ∧ L' = L) := by
  refine Fn.of (N := 44) Try.func29 rfl rfl ?_
  intro Xh
  refine TC.seq ?_
  refine TC.region ?_
  refine TL.val rfl rfl rfl (Y.assign rfl rfl) ?_
  refine TL.nil ?_
  refine TQ.next ?_
  refine TC.seq ?_
  refine TC.seq ?_
  refine TC.region ?_
  refine TL.val rfl rfl rfl (Y.move rfl rfl) ?_
  refine TL.nil ?_
  refine TQ.next ?_
  refine TC.block ?_
  refine TC.seq ?_
  refine TC.region ?_
  refine TL.val rfl rfl rfl (Y.bin rfl rfl rfl (br_eq8 (y := 1))) ?_
  refine TL.val rfl rfl rfl (Y.assign rfl rfl) ?_
  refine TL.nil ?_
  refine TQ.next ?_
  refine TC.cond rfl (fun c0 => ?_) (fun c0 => ?_)
  · try simp only [decide_eq_true_eq, decide_eq_false_iff_not, Bool.not_eq_true', Bool.not_eq_false', Bool.and_eq_true, Bool.or_eq_true, Nat.not_lt, Nat.not_le, beq_iff_eq, bne_iff_ne] at c0
    refine TC.seq ?_
    refine TC.region ?_
    refine TL.val rfl rfl rfl (Y.move rfl rfl) ?_
    refine TL.val rfl rfl rfl (Y.bin rfl rfl rfl (br_eqN (n := 8))) ?_
    refine TL.val rfl rfl rfl (Y.assign rfl rfl) ?_
    refine TL.nil ?_
    refine TQ.next ?_
    refine TC.ret ?_
    refine TQ.block_ret ?_
    refine TQ.then_ret ?_
    refine TQ.retE (res1 rfl rfl) (⟨by unfold fitsB; simp_all <;> (first | done | omega), rfl⟩) ?_
    exact ett
  · try simp only [decide_eq_true_eq, decide_eq_false_iff_not, Bool.not_eq_true', Bool.not_eq_false', Bool.and_eq_true, Bool.or_eq_true, Nat.not_lt, Nat.not_le, beq_iff_eq, bne_iff_ne] at c0
    refine TC.seq ?_
    refine TC.region ?_
    refine TL.val rfl rfl rfl (Y.bin rfl rfl rfl (br_eq8 (y := 2))) ?_
    refine TL.val rfl rfl rfl (Y.assign rfl rfl) ?_
    refine TL.nil ?_
    refine TQ.next ?_
    refine TC.cond rfl (fun c1 => ?_) (fun c1 => ?_)
    · try simp only [decide_eq_true_eq, decide_eq_false_iff_not, Bool.not_eq_true', Bool.not_eq_false', Bool.and_eq_true, Bool.or_eq_true, Nat.not_lt, Nat.not_le, beq_iff_eq, bne_iff_ne] at c1
      refine TC.seq ?_
      refine TC.region ?_
      refine TL.val rfl rfl rfl (Y.move rfl rfl) ?_
      refine TL.val rfl rfl rfl (Y.bin rfl rfl rfl (br_eqN (n := 44))) ?_
      refine TL.val rfl rfl rfl (Y.assign rfl rfl) ?_
      refine TL.nil ?_
      refine TQ.next ?_
      refine TC.ret ?_
      refine TQ.block_ret ?_
      refine TQ.then_ret ?_
      refine TQ.retE (res1 rfl rfl) (⟨by unfold fitsB; simp_all <;> (first | done | omega), rfl⟩) ?_
      exact ett
    · try simp only [decide_eq_true_eq, decide_eq_false_iff_not, Bool.not_eq_true', Bool.not_eq_false', Bool.and_eq_true, Bool.or_eq_true, Nat.not_lt, Nat.not_le, beq_iff_eq, bne_iff_ne] at c1
      refine TC.seq ?_
      refine TC.region ?_
      refine TL.val rfl rfl rfl (Y.bin rfl rfl rfl (br_eq8 (y := 3))) ?_
      refine TL.val rfl rfl rfl (Y.assign rfl rfl) ?_
      refine TL.nil ?_
      refine TQ.next ?_
      refine TC.cond rfl (fun c2 => ?_) (fun c2 => ?_)
      · try simp only [decide_eq_true_eq, decide_eq_false_iff_not, Bool.not_eq_true', Bool.not_eq_false', Bool.and_eq_true, Bool.or_eq_true, Nat.not_lt, Nat.not_le, beq_iff_eq, bne_iff_ne] at c2
        refine TC.seq ?_
        refine TC.region ?_
        refine TL.val rfl rfl rfl (Y.move rfl rfl) ?_
        refine TL.val rfl rfl rfl (Y.bin rfl rfl rfl (br_eqN (n := 36))) ?_
        refine TL.val rfl rfl rfl (Y.assign rfl rfl) ?_
        refine TL.nil ?_
        refine TQ.next ?_
        refine TC.ret ?_
        refine TQ.block_ret ?_
        refine TQ.then_ret ?_
        refine TQ.retE (res1 rfl rfl) (⟨by unfold fitsB; simp_all <;> (first | done | omega), rfl⟩) ?_
        exact ett
      · try simp only [decide_eq_true_eq, decide_eq_false_iff_not, Bool.not_eq_true', Bool.not_eq_false', Bool.and_eq_true, Bool.or_eq_true, Nat.not_lt, Nat.not_le, beq_iff_eq, bne_iff_ne] at c2
        refine TC.seq ?_
        refine TC.seq ?_
        refine TC.region ?_
        refine TL.val rfl rfl rfl (Y.bin rfl rfl rfl (br_eq8 (y := 4))) ?_
        refine TL.val rfl rfl rfl (Y.assign rfl rfl) ?_
        refine TL.nil ?_
        refine TQ.next ?_
        refine TC.cond rfl (fun c3 => ?_) (fun c3 => ?_)
        · try simp only [decide_eq_true_eq, decide_eq_false_iff_not, Bool.not_eq_true', Bool.not_eq_false', Bool.and_eq_true, Bool.or_eq_true, Nat.not_lt, Nat.not_le, beq_iff_eq, bne_iff_ne] at c3
          refine TC.skip ?_
          refine TQ.next ?_
          refine TC.cond rfl (fun c4 => ?_) (fun c4 => ?_)
          · try simp only [decide_eq_true_eq, decide_eq_false_iff_not, Bool.not_eq_true', Bool.not_eq_false', Bool.and_eq_true, Bool.or_eq_true, Nat.not_lt, Nat.not_le, beq_iff_eq, bne_iff_ne] at c4
            refine TC.seq ?_
            refine TC.region ?_
            refine TL.val rfl rfl rfl (Y.move rfl rfl) ?_
            refine TL.val rfl rfl rfl (Y.bin rfl rfl rfl (br_eqN (n := 0))) ?_
            refine TL.val rfl rfl rfl (Y.assign rfl rfl) ?_
            refine TL.nil ?_
            refine TQ.next ?_
            refine TC.ret ?_
            refine TQ.block_ret ?_
            refine TQ.then_ret ?_
            refine TQ.retE (res1 rfl rfl) (⟨by unfold fitsB; simp_all <;> (first | done | omega), rfl⟩) ?_
            exact ett
          · try simp only [decide_eq_true_eq, decide_eq_false_iff_not, Bool.not_eq_true', Bool.not_eq_false', Bool.and_eq_true, Bool.or_eq_true, Nat.not_lt, Nat.not_le, beq_iff_eq, bne_iff_ne] at c4
            refine TC.seq ?_
            refine TC.region ?_
            refine TL.val rfl rfl rfl (Y.bin rfl rfl rfl (br_eq8 (y := 5))) ?_
            refine TL.val rfl rfl rfl (Y.assign rfl rfl) ?_
            refine TL.nil ?_
            refine TQ.next ?_
            refine TC.cond rfl (fun c5 => ?_) (fun c5 => ?_)
            · try simp only [decide_eq_true_eq, decide_eq_false_iff_not, Bool.not_eq_true', Bool.not_eq_false', Bool.and_eq_true, Bool.or_eq_true, Nat.not_lt, Nat.not_le, beq_iff_eq, bne_iff_ne] at c5
              refine TC.seq ?_
              refine TC.region ?_
              refine TL.val rfl rfl rfl (Y.move rfl rfl) ?_
              refine TL.val rfl rfl rfl (Y.bin rfl rfl rfl (br_geN (n := 10))) ?_
              refine TL.val rfl rfl rfl (Y.move rfl rfl) ?_
              refine TL.case (fun g12_2 => ?_) (fun g12_2 => ?_)
              · try simp only [decide_eq_true_eq, decide_eq_false_iff_not, Bool.not_eq_true', Bool.not_eq_false', Nat.not_lt, Nat.not_le, beq_iff_eq, bne_iff_ne] at g12_2
                refine TL.valG rfl rfl rfl (Y.move rfl rfl) ?_
                refine TL.valG rfl rfl rfl (Y.bin rfl rfl rfl (br_leN (n := 1034))) ?_
                refine TL.val rfl rfl rfl (Y.pick_t rfl rfl rfl) ?_
                refine TL.val rfl rfl rfl (Y.assign rfl rfl) ?_
                refine TL.nil ?_
                refine TQ.next ?_
                refine TC.ret ?_
                refine TQ.block_ret ?_
                refine TQ.then_ret ?_
                refine TQ.retE (res1 rfl rfl) (⟨by unfold fitsB; simp_all <;> (first | done | omega), rfl⟩) ?_
                exact ett
              · try simp only [decide_eq_true_eq, decide_eq_false_iff_not, Bool.not_eq_true', Bool.not_eq_false', Nat.not_lt, Nat.not_le, beq_iff_eq, bne_iff_ne] at g12_2
                refine TL.not rfl rfl rfl ?_
                refine TL.not rfl rfl rfl ?_
                refine TL.val rfl rfl rfl (Y.pick_f rfl rfl rfl) ?_
                refine TL.val rfl rfl rfl (Y.assign rfl rfl) ?_
                refine TL.nil ?_
                refine TQ.next ?_
                refine TC.ret ?_
                refine TQ.block_ret ?_
                refine TQ.then_ret ?_
                refine TQ.retE (res1 rfl rfl) (⟨by unfold fitsB; simp_all <;> (first | done | omega), rfl⟩) ?_
                exact ett
            · try simp only [decide_eq_true_eq, decide_eq_false_iff_not, Bool.not_eq_true', Bool.not_eq_false', Bool.and_eq_true, Bool.or_eq_true, Nat.not_lt, Nat.not_le, beq_iff_eq, bne_iff_ne] at c5
              refine TC.seq ?_
              refine TC.region ?_
              refine TL.val rfl rfl rfl (Y.bin rfl rfl rfl (br_eq8 (y := 6))) ?_
              refine TL.val rfl rfl rfl (Y.assign rfl rfl) ?_
              refine TL.nil ?_
              refine TQ.next ?_
              refine TC.cond rfl (fun c6 => ?_) (fun c6 => ?_)
              · try simp only [decide_eq_true_eq, decide_eq_false_iff_not, Bool.not_eq_true', Bool.not_eq_false', Bool.and_eq_true, Bool.or_eq_true, Nat.not_lt, Nat.not_le, beq_iff_eq, bne_iff_ne] at c6
                refine TC.seq ?_
                refine TC.region ?_
                refine TL.val rfl rfl rfl (Y.move rfl rfl) ?_
                refine TL.val rfl rfl rfl (Y.bin rfl rfl rfl (br_geN (n := 4))) ?_
                refine TL.val rfl rfl rfl (Y.move rfl rfl) ?_
                refine TL.case (fun g14_2 => ?_) (fun g14_2 => ?_)
                · try simp only [decide_eq_true_eq, decide_eq_false_iff_not, Bool.not_eq_true', Bool.not_eq_false', Nat.not_lt, Nat.not_le, beq_iff_eq, bne_iff_ne] at g14_2
                  refine TL.valG rfl rfl rfl (Y.move rfl rfl) ?_
                  refine TL.valG rfl rfl rfl (Y.bin rfl rfl rfl (br_remN (n := 4) (by omega))) ?_
                  refine TL.valG rfl rfl rfl (Y.bin rfl rfl rfl (br_eqN (n := 0))) ?_
                  refine TL.val rfl rfl rfl (Y.pick_t rfl rfl rfl) ?_
                  refine TL.val rfl rfl rfl (Y.move rfl rfl) ?_
                  refine TL.case (fun g14_7 => ?_) (fun g14_7 => ?_)
                  · try simp only [decide_eq_true_eq, decide_eq_false_iff_not, Bool.not_eq_true', Bool.not_eq_false', Nat.not_lt, Nat.not_le, beq_iff_eq, bne_iff_ne] at g14_7
                    refine TL.valG rfl rfl rfl (Y.move rfl rfl) ?_
                    refine TL.valG rfl rfl rfl (Y.bin rfl rfl rfl (br_leN (n := 68))) ?_
                    refine TL.val rfl rfl rfl (Y.pick_t rfl rfl rfl) ?_
                    refine TL.val rfl rfl rfl (Y.assign rfl rfl) ?_
                    refine TL.nil ?_
                    refine TQ.next ?_
                    refine TC.ret ?_
                    refine TQ.block_ret ?_
                    refine TQ.then_ret ?_
                    refine TQ.retE (res1 rfl rfl) (⟨by unfold fitsB; simp_all <;> (first | done | omega), rfl⟩) ?_
                    exact ett
                  · try simp only [decide_eq_true_eq, decide_eq_false_iff_not, Bool.not_eq_true', Bool.not_eq_false', Nat.not_lt, Nat.not_le, beq_iff_eq, bne_iff_ne] at g14_7
                    refine TL.not rfl rfl rfl ?_
                    refine TL.not rfl rfl rfl ?_
                    refine TL.val rfl rfl rfl (Y.pick_f rfl rfl rfl) ?_
                    refine TL.val rfl rfl rfl (Y.assign rfl rfl) ?_
                    refine TL.nil ?_
                    refine TQ.next ?_
                    refine TC.ret ?_
                    refine TQ.block_ret ?_
                    refine TQ.then_ret ?_
                    refine TQ.retE (res1 rfl rfl) (⟨by unfold fitsB; simp_all <;> (first | done | omega), rfl⟩) ?_
                    exact ett
                · try simp only [decide_eq_true_eq, decide_eq_false_iff_not, Bool.not_eq_true', Bool.not_eq_false', Nat.not_lt, Nat.not_le, beq_iff_eq, bne_iff_ne] at g14_2
                  refine TL.not rfl rfl rfl ?_
                  refine TL.not rfl rfl rfl ?_
                  refine TL.not rfl rfl rfl ?_
                  refine TL.val rfl rfl rfl (Y.pick_f rfl rfl rfl) ?_
                  refine TL.val rfl rfl rfl (Y.move rfl rfl) ?_
                  refine TL.not rfl rfl rfl ?_
                  refine TL.not rfl rfl rfl ?_
                  refine TL.val rfl rfl rfl (Y.pick_f rfl rfl rfl) ?_
                  refine TL.val rfl rfl rfl (Y.assign rfl rfl) ?_
                  refine TL.nil ?_
                  refine TQ.next ?_
                  refine TC.ret ?_
                  refine TQ.block_ret ?_
                  refine TQ.then_ret ?_
                  refine TQ.retE (res1 rfl rfl) (⟨by unfold fitsB; simp_all <;> (first | done | omega), rfl⟩) ?_
                  exact ett
              · try simp only [decide_eq_true_eq, decide_eq_false_iff_not, Bool.not_eq_true', Bool.not_eq_false', Bool.and_eq_true, Bool.or_eq_true, Nat.not_lt, Nat.not_le, beq_iff_eq, bne_iff_ne] at c6
                refine TC.skip ?_
                refine TQ.block_normal ?_
                refine TQ.next ?_
                refine TC.seq ?_
                refine TC.region ?_
                refine TL.val rfl rfl rfl (Y.assign rfl rfl) ?_
                refine TL.nil ?_
                refine TQ.next ?_
                refine TC.ret ?_
                refine TQ.retE (res1 rfl rfl) (⟨by unfold fitsB; simp_all <;> (first | done | omega), rfl⟩) ?_
                exact ett
        · try simp only [decide_eq_true_eq, decide_eq_false_iff_not, Bool.not_eq_true', Bool.not_eq_false', Bool.and_eq_true, Bool.or_eq_true, Nat.not_lt, Nat.not_le, beq_iff_eq, bne_iff_ne] at c3
          refine TC.region ?_
          refine TL.val rfl rfl rfl (Y.bin rfl rfl rfl (br_eq8 (y := 7))) ?_
          refine TL.val rfl rfl rfl (Y.assign rfl rfl) ?_
          refine TL.nil ?_
          refine TQ.next ?_
          refine TC.cond rfl (fun c4 => ?_) (fun c4 => ?_)
          · try simp only [decide_eq_true_eq, decide_eq_false_iff_not, Bool.not_eq_true', Bool.not_eq_false', Bool.and_eq_true, Bool.or_eq_true, Nat.not_lt, Nat.not_le, beq_iff_eq, bne_iff_ne] at c4
            refine TC.seq ?_
            refine TC.region ?_
            refine TL.val rfl rfl rfl (Y.move rfl rfl) ?_
            refine TL.val rfl rfl rfl (Y.bin rfl rfl rfl (br_eqN (n := 0))) ?_
            refine TL.val rfl rfl rfl (Y.assign rfl rfl) ?_
            refine TL.nil ?_
            refine TQ.next ?_
            refine TC.ret ?_
            refine TQ.block_ret ?_
            refine TQ.then_ret ?_
            refine TQ.retE (res1 rfl rfl) (⟨by unfold fitsB; simp_all <;> (first | done | omega), rfl⟩) ?_
            exact ett
          · try simp only [decide_eq_true_eq, decide_eq_false_iff_not, Bool.not_eq_true', Bool.not_eq_false', Bool.and_eq_true, Bool.or_eq_true, Nat.not_lt, Nat.not_le, beq_iff_eq, bne_iff_ne] at c4
            refine TC.seq ?_
            refine TC.region ?_
            refine TL.val rfl rfl rfl (Y.bin rfl rfl rfl (br_eq8 (y := 5))) ?_
            refine TL.val rfl rfl rfl (Y.assign rfl rfl) ?_
            refine TL.nil ?_
            refine TQ.next ?_
            refine TC.cond rfl (fun c5 => ?_) (fun c5 => ?_)
            · try simp only [decide_eq_true_eq, decide_eq_false_iff_not, Bool.not_eq_true', Bool.not_eq_false', Bool.and_eq_true, Bool.or_eq_true, Nat.not_lt, Nat.not_le, beq_iff_eq, bne_iff_ne] at c5
              refine TC.seq ?_
              refine TC.region ?_
              refine TL.val rfl rfl rfl (Y.move rfl rfl) ?_
              refine TL.val rfl rfl rfl (Y.bin rfl rfl rfl (br_geN (n := 10))) ?_
              refine TL.val rfl rfl rfl (Y.move rfl rfl) ?_
              refine TL.case (fun g12_2 => ?_) (fun g12_2 => ?_)
              · try simp only [decide_eq_true_eq, decide_eq_false_iff_not, Bool.not_eq_true', Bool.not_eq_false', Nat.not_lt, Nat.not_le, beq_iff_eq, bne_iff_ne] at g12_2
                refine TL.valG rfl rfl rfl (Y.move rfl rfl) ?_
                refine TL.valG rfl rfl rfl (Y.bin rfl rfl rfl (br_leN (n := 1034))) ?_
                refine TL.val rfl rfl rfl (Y.pick_t rfl rfl rfl) ?_
                refine TL.val rfl rfl rfl (Y.assign rfl rfl) ?_
                refine TL.nil ?_
                refine TQ.next ?_
                refine TC.ret ?_
                refine TQ.block_ret ?_
                refine TQ.then_ret ?_
                refine TQ.retE (res1 rfl rfl) (⟨by unfold fitsB; simp_all <;> (first | done | omega), rfl⟩) ?_
                exact ett
              · try simp only [decide_eq_true_eq, decide_eq_false_iff_not, Bool.not_eq_true', Bool.not_eq_false', Nat.not_lt, Nat.not_le, beq_iff_eq, bne_iff_ne] at g12_2
                refine TL.not rfl rfl rfl ?_
                refine TL.not rfl rfl rfl ?_
                refine TL.val rfl rfl rfl (Y.pick_f rfl rfl rfl) ?_
                refine TL.val rfl rfl rfl (Y.assign rfl rfl) ?_
                refine TL.nil ?_
                refine TQ.next ?_
                refine TC.ret ?_
                refine TQ.block_ret ?_
                refine TQ.then_ret ?_
                refine TQ.retE (res1 rfl rfl) (⟨by unfold fitsB; simp_all <;> (first | done | omega), rfl⟩) ?_
                exact ett
            · try simp only [decide_eq_true_eq, decide_eq_false_iff_not, Bool.not_eq_true', Bool.not_eq_false', Bool.and_eq_true, Bool.or_eq_true, Nat.not_lt, Nat.not_le, beq_iff_eq, bne_iff_ne] at c5
              refine TC.seq ?_
              refine TC.region ?_
              refine TL.val rfl rfl rfl (Y.bin rfl rfl rfl (br_eq8 (y := 6))) ?_
              refine TL.val rfl rfl rfl (Y.assign rfl rfl) ?_
              refine TL.nil ?_
              refine TQ.next ?_
              refine TC.cond rfl (fun c6 => ?_) (fun c6 => ?_)
              · try simp only [decide_eq_true_eq, decide_eq_false_iff_not, Bool.not_eq_true', Bool.not_eq_false', Bool.and_eq_true, Bool.or_eq_true, Nat.not_lt, Nat.not_le, beq_iff_eq, bne_iff_ne] at c6
                refine TC.seq ?_
                refine TC.region ?_
                refine TL.val rfl rfl rfl (Y.move rfl rfl) ?_
                refine TL.val rfl rfl rfl (Y.bin rfl rfl rfl (br_geN (n := 4))) ?_
                refine TL.val rfl rfl rfl (Y.move rfl rfl) ?_
                refine TL.case (fun g14_2 => ?_) (fun g14_2 => ?_)
                · try simp only [decide_eq_true_eq, decide_eq_false_iff_not, Bool.not_eq_true', Bool.not_eq_false', Nat.not_lt, Nat.not_le, beq_iff_eq, bne_iff_ne] at g14_2
                  refine TL.valG rfl rfl rfl (Y.move rfl rfl) ?_
                  refine TL.valG rfl rfl rfl (Y.bin rfl rfl rfl (br_remN (n := 4) (by omega))) ?_
                  refine TL.valG rfl rfl rfl (Y.bin rfl rfl rfl (br_eqN (n := 0))) ?_
                  refine TL.val rfl rfl rfl (Y.pick_t rfl rfl rfl) ?_
                  refine TL.val rfl rfl rfl (Y.move rfl rfl) ?_
                  refine TL.case (fun g14_7 => ?_) (fun g14_7 => ?_)
                  · try simp only [decide_eq_true_eq, decide_eq_false_iff_not, Bool.not_eq_true', Bool.not_eq_false', Nat.not_lt, Nat.not_le, beq_iff_eq, bne_iff_ne] at g14_7
                    refine TL.valG rfl rfl rfl (Y.move rfl rfl) ?_
                    refine TL.valG rfl rfl rfl (Y.bin rfl rfl rfl (br_leN (n := 68))) ?_
                    refine TL.val rfl rfl rfl (Y.pick_t rfl rfl rfl) ?_
                    refine TL.val rfl rfl rfl (Y.assign rfl rfl) ?_
                    refine TL.nil ?_
                    refine TQ.next ?_
                    refine TC.ret ?_
                    refine TQ.block_ret ?_
                    refine TQ.then_ret ?_
                    refine TQ.retE (res1 rfl rfl) (⟨by unfold fitsB; simp_all <;> (first | done | omega), rfl⟩) ?_
                    exact ett
                  · try simp only [decide_eq_true_eq, decide_eq_false_iff_not, Bool.not_eq_true', Bool.not_eq_false', Nat.not_lt, Nat.not_le, beq_iff_eq, bne_iff_ne] at g14_7
                    refine TL.not rfl rfl rfl ?_
                    refine TL.not rfl rfl rfl ?_
                    refine TL.val rfl rfl rfl (Y.pick_f rfl rfl rfl) ?_
                    refine TL.val rfl rfl rfl (Y.assign rfl rfl) ?_
                    refine TL.nil ?_
                    refine TQ.next ?_
                    refine TC.ret ?_
                    refine TQ.block_ret ?_
                    refine TQ.then_ret ?_
                    refine TQ.retE (res1 rfl rfl) (⟨by unfold fitsB; simp_all <;> (first | done | omega), rfl⟩) ?_
                    exact ett
                · try simp only [decide_eq_true_eq, decide_eq_false_iff_not, Bool.not_eq_true', Bool.not_eq_false', Nat.not_lt, Nat.not_le, beq_iff_eq, bne_iff_ne] at g14_2
                  refine TL.not rfl rfl rfl ?_
                  refine TL.not rfl rfl rfl ?_
                  refine TL.not rfl rfl rfl ?_
                  refine TL.val rfl rfl rfl (Y.pick_f rfl rfl rfl) ?_
                  refine TL.val rfl rfl rfl (Y.move rfl rfl) ?_
                  refine TL.not rfl rfl rfl ?_
                  refine TL.not rfl rfl rfl ?_
                  refine TL.val rfl rfl rfl (Y.pick_f rfl rfl rfl) ?_
                  refine TL.val rfl rfl rfl (Y.assign rfl rfl) ?_
                  refine TL.nil ?_
                  refine TQ.next ?_
                  refine TC.ret ?_
                  refine TQ.block_ret ?_
                  refine TQ.then_ret ?_
                  refine TQ.retE (res1 rfl rfl) (⟨by unfold fitsB; simp_all <;> (first | done | omega), rfl⟩) ?_
                  exact ett
              · try simp only [decide_eq_true_eq, decide_eq_false_iff_not, Bool.not_eq_true', Bool.not_eq_false', Bool.and_eq_true, Bool.or_eq_true, Nat.not_lt, Nat.not_le, beq_iff_eq, bne_iff_ne] at c6
                refine TC.skip ?_
                refine TQ.block_normal ?_
                refine TQ.next ?_
                refine TC.seq ?_
                refine TC.region ?_
                refine TL.val rfl rfl rfl (Y.assign rfl rfl) ?_
                refine TL.nil ?_
                refine TQ.next ?_
                refine TC.ret ?_
                refine TQ.retE (res1 rfl rfl) (⟨by unfold fitsB; simp_all <;> (first | done | omega), rfl⟩) ?_
                exact ett
section
variable (b : Nat) (p : AP) (S : AS Msg)
theorem initial_no (rb : Nat) (l : List UInt8) (hl : l.length = 8) (h0 : S.state ≠ 0) (h3 : S.state ≠ 3) (L : List SA) :
    Fn Try.prog 31 [pt b 0, pt rb 0] (rd.R rb l false :: aB b p S :: L) (fun v L' => v = .tuple #[.slice none 0 0, .slice none 0 0, vN 9] ∧ L' = aB b p S :: L) := by
  refine Fn.of (N := 45) Try.func31 rfl rfl ?_
  intro Xh
  refine TC.seq ?_
  refine TC.region ?_
  refine TL.val rfl rfl rfl (Y.assign rfl rfl) ?_
  refine TL.val rfl rfl rfl (Y.assign rfl rfl) ?_
  refine TL.val rfl rfl rfl (Y.assign rfl rfl) ?_
  refine TL.nil ?_
  refine TQ.next ?_
  refine TC.seq ?_
  refine TC.region ?_
  refine TL.val rfl rfl rfl (Y.move rfl rfl) ?_
  refine TL.eff rfl rfl rfl (X.call rfl Try.func27 (by kernel_rfl) rfl rfl (Fn.preE (by repeat first | (with_reducible apply Ent.refl) | (apply Ent.cons; case h => first | (with_reducible (repeat first | apply Pull.here | apply Pull.there); done) | (repeat first | apply Pull.here | apply Pull.there))) (u32_ok rb l (by omega) _))) ?_
  rintro _ _ ⟨rfl, rfl⟩
  refine TL.val rfl rfl rfl (Y.move rfl rfl) ?_
  refine TL.eff rfl rfl rfl (X.call rfl Try.func27 (by kernel_rfl) rfl rfl (Fn.preE (by repeat first | (with_reducible apply Ent.refl) | (apply Ent.cons; case h => first | (with_reducible (repeat first | apply Pull.here | apply Pull.there); done) | (repeat first | apply Pull.here | apply Pull.there))) (u32_ok rb (l.drop 4) (by rw [List.length_drop]; omega) _))) ?_
  rintro _ _ ⟨rfl, rfl⟩
  refine TL.val rfl rfl rfl (Y.assign rfl rfl) ?_
  refine TL.val rfl rfl rfl (Y.assign rfl rfl) ?_
  refine TL.nil ?_
  refine TQ.next ?_
  refine TC.seq ?_
  refine TC.seq ?_
  refine TC.region ?_
  refine TL.val rfl rfl rfl (Y.move rfl rfl) ?_
  refine TL.val rfl rfl rfl (Y.nilCheck rfl rfl) ?_
  refine TL.val rfl rfl rfl (by first | exact Y.fieldAddrJ rfl fo68_3 rfl nqq | exact Y.fieldAddr rfl fo68_3 rfl nqq) ?_
  refine TL.val rfl rfl rfl (Y.load rfl sc3 rfl celN) ?_
  refine TL.as (vN S.state) (by rfl) ?_
  refine TL.val rfl rfl rfl (Y.bin rfl rfl rfl (br_neN (n := 0))) ?_
  refine TL.is true (by simpa using h0) ?_
  refine TL.val rfl rfl rfl (Y.move rfl rfl) ?_
  refine TL.valG rfl rfl rfl (Y.move rfl rfl) ?_
  refine TL.valG rfl rfl rfl (Y.nilCheck rfl rfl) ?_
  refine TL.valG rfl rfl rfl (by first | exact Y.fieldAddrJ rfl fo68_3 rfl nqq | exact Y.fieldAddr rfl fo68_3 rfl nqq) ?_
  refine TL.valG rfl rfl rfl (Y.load rfl sc3 rfl celN) ?_
  refine TL.as (vN S.state) (by rfl) ?_
  refine TL.valG rfl rfl rfl (Y.bin rfl rfl rfl (br_neN (n := 3))) ?_
  refine TL.is true (by simpa using h3) ?_
  refine TL.val rfl rfl rfl (Y.pick_t rfl rfl rfl) ?_
  refine TL.nil ?_
  refine TQ.next ?_
  refine TC.cond_t rfl ?_
  refine TC.seq ?_
  refine TC.region ?_
  refine TL.val rfl rfl rfl (Y.assign rfl rfl) ?_
  refine TL.val rfl rfl rfl (Y.assign rfl rfl) ?_
  refine TL.val rfl rfl rfl (Y.assign rfl rfl) ?_
  refine TL.nil ?_
  refine TQ.next ?_
  refine TC.ret ?_
  refine TQ.then_ret ?_
  refine TQ.retE (resL rfl (Res.tmp rfl (Res.tmp rfl (Res.tmp rfl Res.nil)))) (⟨rfl, rfl⟩) ?_
  exact ett
set_option maxHeartbeats 1000000 in
theorem initial_yes (rb : Nat) (l : List UInt8) (hl : l.length = 8) (h : S.state = 0 ∨ S.state = 3) (hs : S.secret.length ≤ 140737488351232) (L : List SA) :
    Fn Try.prog 31 [pt b 0, pt rb 0] (rd.R rb l false :: aB b p S :: aS p S :: L)
      (fun v L' => ∃ o : Sl Bs, v = .tuple #[o.v, .slice none 0 0, vN 0] ∧ o.l.map (·.l) = [S.initAckB (num (l.take 4)) (num ((l.drop 4).take 4))] ∧ L' = SA.dat o :: aB b p S :: aS p S :: L) := by
  obtain ⟨tag, htag⟩ : ∃ t, t = num (l.take 4) := ⟨_, rfl⟩
  obtain ⟨tsn, htsn⟩ : ∃ t, t = num ((l.drop 4).take 4) := ⟨_, rfl⟩
  rw [← htag, ← htsn]
  refine Fn.of (N := 45) Try.func31 rfl rfl ?_
  intro Xh
  refine TC.seq ?_
  refine TC.region ?_
  refine TL.val rfl rfl rfl (Y.assign rfl rfl) ?_
  refine TL.val rfl rfl rfl (Y.assign rfl rfl) ?_
  refine TL.val rfl rfl rfl (Y.assign rfl rfl) ?_
  refine TL.nil ?_
  refine TQ.next ?_
  refine TC.seq ?_
  refine TC.region ?_
  refine TL.val rfl rfl rfl (Y.move rfl rfl) ?_
  refine TL.eff rfl rfl rfl (X.call rfl Try.func27 (by kernel_rfl) rfl rfl (Fn.preE (by repeat first | (with_reducible apply Ent.refl) | (apply Ent.cons; case h => first | (with_reducible (repeat first | apply Pull.here | apply Pull.there); done) | (repeat first | apply Pull.here | apply Pull.there))) (u32_ok rb l (by omega) _))) ?_
  rintro _ _ ⟨rfl, rfl⟩
  rw [← htag]
  refine TL.val rfl rfl rfl (Y.move rfl rfl) ?_
  refine TL.eff rfl rfl rfl (X.call rfl Try.func27 (by kernel_rfl) rfl rfl (Fn.preE (by repeat first | (with_reducible apply Ent.refl) | (apply Ent.cons; case h => first | (with_reducible (repeat first | apply Pull.here | apply Pull.there); done) | (repeat first | apply Pull.here | apply Pull.there))) (u32_ok rb (l.drop 4) (by rw [List.length_drop]; omega) _))) ?_
  rintro _ _ ⟨rfl, rfl⟩
  rw [← htsn]
  refine TL.val rfl rfl rfl (Y.assign rfl rfl) ?_
  refine TL.val rfl rfl rfl (Y.assign rfl rfl) ?_
  refine TL.nil ?_
  refine TQ.next ?_
  refine TC.seq ?_
  refine TC.seq ?_
  refine TC.region ?_
  refine TL.val rfl rfl rfl (Y.move rfl rfl) ?_
  refine TL.val rfl rfl rfl (Y.nilCheck rfl rfl) ?_
  refine TL.val rfl rfl rfl (by first | exact Y.fieldAddrJ rfl fo68_3 rfl nqq | exact Y.fieldAddr rfl fo68_3 rfl nqq) ?_
  refine TL.val rfl rfl rfl (Y.load rfl sc3 rfl celN) ?_
  refine TL.as (vN S.state) (by rfl) ?_
  refine TL.val rfl rfl rfl (Y.bin rfl rfl rfl (br_neN (n := 0))) ?_
  refine TL.val rfl rfl rfl (Y.move rfl rfl) ?_
  refine TL.case (fun g2_5 => ?_) (fun g2_5 => ?_)
  · try simp only [decide_eq_true_eq, decide_eq_false_iff_not, Bool.not_eq_true', Bool.not_eq_false', Nat.not_lt, Nat.not_le, beq_iff_eq, bne_iff_ne] at g2_5
    refine TL.valG rfl rfl rfl (Y.move rfl rfl) ?_
    refine TL.valG rfl rfl rfl (Y.nilCheck rfl rfl) ?_
    refine TL.valG rfl rfl rfl (by first | exact Y.fieldAddrJ rfl fo68_3 rfl nqq | exact Y.fieldAddr rfl fo68_3 rfl nqq) ?_
    refine TL.valG rfl rfl rfl (Y.load rfl sc3 rfl celN) ?_
    refine TL.as (vN S.state) (by rfl) ?_
    refine TL.valG rfl rfl rfl (Y.bin rfl rfl rfl (br_neN (n := 3))) ?_
    refine TL.is false (by (simp; omega)) ?_
    refine TL.val rfl rfl rfl (Y.pick_t rfl rfl rfl) ?_
    refine TL.nil ?_
    refine TQ.next ?_
    refine TC.cond_f rfl ?_
    refine TC.skip ?_
    refine TQ.next ?_
    refine TC.seq ?_
    refine TC.region ?_
    refine TL.val rfl rfl rfl (Y.move rfl rfl) ?_
    refine TL.eff rfl rfl rfl (X.call rfl Try.func44 (by kernel_rfl) rfl rfl (Fn.preE (by repeat first | (with_reducible apply Ent.refl) | (apply Ent.cons; case h => first | (with_reducible (repeat first | apply Pull.here | apply Pull.there); done) | (repeat first | apply Pull.here | apply Pull.there))) (packet_fn tag 2 _))) ?_
    rintro _ _ ⟨a27, c27, rfl, rfl⟩
    refine TL.eff rfl rfl rfl (X.alloc rfl zc85) ?_
    rintro _ _ ⟨b9, rfl, rfl⟩
    refine TL.eff0 rfl rfl (by first | exact X.store rfl sz85 rfl rfl rfl pul lnn (by first | exact setM | rfl) | exact X.storeOwn rfl sz85 rfl (Nat.zero_add _).symm rfl rfl pul lnn (by first | exact setML | rfl) | exact X.storeOwn rfl sz85 rfl rfl rfl rfl pul lnn (by first | exact setML | rfl)) ?_
    rintro _ _ rfl
    refine TL.nil ?_
    refine TQ.to (wr.put (b := b9) pul (by rfl) pul (l := pkt tag 2) rfl rfl Ent.refl) ?_
    refine TQ.next ?_
    refine TC.seq ?_
    refine TC.region ?_
    refine TL.val rfl rfl rfl (Y.move rfl rfl) ?_
    refine TL.val rfl rfl rfl (Y.nilCheck rfl rfl) ?_
    refine TL.val rfl rfl rfl (by first | exact Y.fieldAddrJ rfl fo68_0 rfl nqq | exact Y.fieldAddr rfl fo68_0 rfl nqq) ?_
    refine TL.val rfl rfl rfl (Y.load rfl sc22 rfl cel32) ?_
    refine TL.as (v32 S.tag) (by rfl) ?_
    refine TL.eff rfl rfl rfl (X.call rfl Try.func45 (by kernel_rfl) rfl rfl (Fn.preE (by repeat first | (with_reducible apply Ent.refl) | (apply Ent.cons; case h => first | (with_reducible (repeat first | apply Pull.here | apply Pull.there); done) | (repeat first | apply Pull.here | apply Pull.there))) (wr.U32_fn b9 S.tag (pkt tag 2) (by show 8 ≤ _; decide) _))) ?_
    rintro _ _ ⟨rfl, rfl⟩
    refine TL.nil ?_
    refine TQ.next ?_
    refine TC.seq ?_
    refine TC.region ?_
    refine TL.val rfl rfl rfl (Y.move rfl rfl) ?_
    refine TL.val rfl rfl rfl (Y.nilCheck rfl rfl) ?_
    refine TL.val rfl rfl rfl (by first | exact Y.fieldAddrJ rfl fo68_1 rfl nqq | exact Y.fieldAddr rfl fo68_1 rfl nqq) ?_
    refine TL.val rfl rfl rfl (Y.load rfl sc22 rfl cel32) ?_
    refine TL.as (v32 S.first) (by rfl) ?_
    refine TL.eff rfl rfl rfl (X.call rfl Try.func45 (by kernel_rfl) rfl rfl (Fn.preE (by repeat first | (with_reducible apply Ent.refl) | (apply Ent.cons; case h => first | (with_reducible (repeat first | apply Pull.here | apply Pull.there); done) | (repeat first | apply Pull.here | apply Pull.there))) (wr.U32_fn b9 S.first _ (by show 12 ≤ _; decide) _))) ?_
    rintro _ _ ⟨rfl, rfl⟩
    refine TL.nil ?_
    refine TQ.next ?_
    refine TC.seq ?_
    refine TC.region ?_
    refine TL.val rfl rfl rfl (Y.move rfl rfl) ?_
    refine TL.val rfl rfl rfl (Y.move rfl rfl) ?_
    refine TL.val rfl rfl rfl (Y.move rfl rfl) ?_
    refine TL.eff rfl rfl rfl (X.call rfl Try.func49 (by kernel_rfl) rfl rfl (Fn.preE (by repeat first | (with_reducible apply Ent.refl) | (apply Ent.cons; case h => first | (with_reducible (repeat first | apply Pull.here | apply Pull.there); done) | (repeat first | apply Pull.here | apply Pull.there))) (cookie_fn b p S tag tsn hs _))) ?_
    rintro _ _ ⟨a41, c41, rfl, rfl⟩
    refine TL.eff rfl rfl rfl (X.call rfl Try.func48 (by kernel_rfl) rfl rfl (Fn.preE (by repeat first | (with_reducible apply Ent.refl) | (apply Ent.cons; case h => first | (with_reducible (repeat first | apply Pull.here | apply Pull.there); done) | (repeat first | apply Pull.here | apply Pull.there))) (wr.Bytes_fn (SA.owns 5 1 (.slice a41 36 c41) 36 ((cookieB S tag tsn).map v8)) b9 36 a41 c41 _ (cookieB S tag tsn) Reads.owns (cookieB_len S tag tsn) (by show 16 + 36 ≤ _; decide) _))) ?_
    rintro _ _ ⟨rfl, rfl⟩
    rw [show pkt tag 2 ++ be32 S.tag ++ be32 S.first ++ cookieB S tag tsn = S.initAckB tag tsn from rfl]
    refine TL.nil ?_
    refine TQ.next ?_
    refine TC.seq ?_
    refine TC.open pul ?_
    rintro ⟨wa, wc⟩
    refine TC.split pul ?_
    refine TC.region ?_
    refine TL.val rfl rfl rfl (Y.load rfl sc85 rfl celD) ?_
    refine TL.eff rfl rfl rfl (X.lit rfl el24 rfl rfl rfl (by decide) rfl) ?_
    rintro _ _ ⟨g44, rfl, rfl⟩
    refine TL.val rfl rfl rfl (Y.assign rfl rfl) ?_
    refine TL.val rfl rfl rfl (Y.assign rfl rfl) ?_
    refine TL.val rfl rfl rfl (Y.assign rfl rfl) ?_
    refine TL.nil ?_
    refine TQ.next ?_
    refine TC.ret ?_
    refine TQ.retE (resL rfl (Res.tmp rfl (Res.tmp rfl (Res.tmp rfl Res.nil)))) (⟨⟨some ⟨g44, 0, none⟩, 1, [⟨wa, wc, S.initAckB tag tsn⟩]⟩, rfl, rfl, rfl⟩) ?_
    exact (Ent.trans (Ent.one1 (a := wa) (g := g44) (l := S.initAckB tag tsn) pul pul rfl) ett)
  · try simp only [decide_eq_true_eq, decide_eq_false_iff_not, Bool.not_eq_true', Bool.not_eq_false', Nat.not_lt, Nat.not_le, beq_iff_eq, bne_iff_ne] at g2_5
    refine TL.not rfl rfl rfl ?_
    refine TL.not rfl rfl rfl ?_
    refine TL.not rfl rfl rfl ?_
    refine TL.not rfl rfl rfl ?_
    refine TL.not rfl rfl rfl ?_
    refine TL.val rfl rfl rfl (Y.pick_f rfl rfl rfl) ?_
    refine TL.nil ?_
    refine TQ.next ?_
    refine TC.cond_f rfl ?_
    refine TC.skip ?_
    refine TQ.next ?_
    refine TC.seq ?_
    refine TC.region ?_
    refine TL.val rfl rfl rfl (Y.move rfl rfl) ?_
    refine TL.eff rfl rfl rfl (X.call rfl Try.func44 (by kernel_rfl) rfl rfl (Fn.preE (by repeat first | (with_reducible apply Ent.refl) | (apply Ent.cons; case h => first | (with_reducible (repeat first | apply Pull.here | apply Pull.there); done) | (repeat first | apply Pull.here | apply Pull.there))) (packet_fn tag 2 _))) ?_
    rintro _ _ ⟨a27, c27, rfl, rfl⟩
    refine TL.eff rfl rfl rfl (X.alloc rfl zc85) ?_
    rintro _ _ ⟨b9, rfl, rfl⟩
    refine TL.eff0 rfl rfl (by first | exact X.store rfl sz85 rfl rfl rfl pul lnn (by first | exact setM | rfl) | exact X.storeOwn rfl sz85 rfl (Nat.zero_add _).symm rfl rfl pul lnn (by first | exact setML | rfl) | exact X.storeOwn rfl sz85 rfl rfl rfl rfl pul lnn (by first | exact setML | rfl)) ?_
    rintro _ _ rfl
    refine TL.nil ?_
    refine TQ.to (wr.put (b := b9) pul (by rfl) pul (l := pkt tag 2) rfl rfl Ent.refl) ?_
    refine TQ.next ?_
    refine TC.seq ?_
    refine TC.region ?_
    refine TL.val rfl rfl rfl (Y.move rfl rfl) ?_
    refine TL.val rfl rfl rfl (Y.nilCheck rfl rfl) ?_
    refine TL.val rfl rfl rfl (by first | exact Y.fieldAddrJ rfl fo68_0 rfl nqq | exact Y.fieldAddr rfl fo68_0 rfl nqq) ?_
    refine TL.val rfl rfl rfl (Y.load rfl sc22 rfl cel32) ?_
    refine TL.as (v32 S.tag) (by rfl) ?_
    refine TL.eff rfl rfl rfl (X.call rfl Try.func45 (by kernel_rfl) rfl rfl (Fn.preE (by repeat first | (with_reducible apply Ent.refl) | (apply Ent.cons; case h => first | (with_reducible (repeat first | apply Pull.here | apply Pull.there); done) | (repeat first | apply Pull.here | apply Pull.there))) (wr.U32_fn b9 S.tag (pkt tag 2) (by show 8 ≤ _; decide) _))) ?_
    rintro _ _ ⟨rfl, rfl⟩
    refine TL.nil ?_
    refine TQ.next ?_
    refine TC.seq ?_
    refine TC.region ?_
    refine TL.val rfl rfl rfl (Y.move rfl rfl) ?_
    refine TL.val rfl rfl rfl (Y.nilCheck rfl rfl) ?_
    refine TL.val rfl rfl rfl (by first | exact Y.fieldAddrJ rfl fo68_1 rfl nqq | exact Y.fieldAddr rfl fo68_1 rfl nqq) ?_
    refine TL.val rfl rfl rfl (Y.load rfl sc22 rfl cel32) ?_
    refine TL.as (v32 S.first) (by rfl) ?_
    refine TL.eff rfl rfl rfl (X.call rfl Try.func45 (by kernel_rfl) rfl rfl (Fn.preE (by repeat first | (with_reducible apply Ent.refl) | (apply Ent.cons; case h => first | (with_reducible (repeat first | apply Pull.here | apply Pull.there); done) | (repeat first | apply Pull.here | apply Pull.there))) (wr.U32_fn b9 S.first _ (by show 12 ≤ _; decide) _))) ?_
    rintro _ _ ⟨rfl, rfl⟩
    refine TL.nil ?_
    refine TQ.next ?_
    refine TC.seq ?_
    refine TC.region ?_
    refine TL.val rfl rfl rfl (Y.move rfl rfl) ?_
    refine TL.val rfl rfl rfl (Y.move rfl rfl) ?_
    refine TL.val rfl rfl rfl (Y.move rfl rfl) ?_
    refine TL.eff rfl rfl rfl (X.call rfl Try.func49 (by kernel_rfl) rfl rfl (Fn.preE (by repeat first | (with_reducible apply Ent.refl) | (apply Ent.cons; case h => first | (with_reducible (repeat first | apply Pull.here | apply Pull.there); done) | (repeat first | apply Pull.here | apply Pull.there))) (cookie_fn b p S tag tsn hs _))) ?_
    rintro _ _ ⟨a41, c41, rfl, rfl⟩
    refine TL.eff rfl rfl rfl (X.call rfl Try.func48 (by kernel_rfl) rfl rfl (Fn.preE (by repeat first | (with_reducible apply Ent.refl) | (apply Ent.cons; case h => first | (with_reducible (repeat first | apply Pull.here | apply Pull.there); done) | (repeat first | apply Pull.here | apply Pull.there))) (wr.Bytes_fn (SA.owns 5 1 (.slice a41 36 c41) 36 ((cookieB S tag tsn).map v8)) b9 36 a41 c41 _ (cookieB S tag tsn) Reads.owns (cookieB_len S tag tsn) (by show 16 + 36 ≤ _; decide) _))) ?_
    rintro _ _ ⟨rfl, rfl⟩
    rw [show pkt tag 2 ++ be32 S.tag ++ be32 S.first ++ cookieB S tag tsn = S.initAckB tag tsn from rfl]
    refine TL.nil ?_
    refine TQ.next ?_
    refine TC.seq ?_
    refine TC.open pul ?_
    rintro ⟨wa, wc⟩
    refine TC.split pul ?_
    refine TC.region ?_
    refine TL.val rfl rfl rfl (Y.load rfl sc85 rfl celD) ?_
    refine TL.eff rfl rfl rfl (X.lit rfl el24 rfl rfl rfl (by decide) rfl) ?_
    rintro _ _ ⟨g44, rfl, rfl⟩
    refine TL.val rfl rfl rfl (Y.assign rfl rfl) ?_
    refine TL.val rfl rfl rfl (Y.assign rfl rfl) ?_
    refine TL.val rfl rfl rfl (Y.assign rfl rfl) ?_
    refine TL.nil ?_
    refine TQ.next ?_
    refine TC.ret ?_
    refine TQ.retE (resL rfl (Res.tmp rfl (Res.tmp rfl (Res.tmp rfl Res.nil)))) (⟨⟨some ⟨g44, 0, none⟩, 1, [⟨wa, wc, S.initAckB tag tsn⟩]⟩, rfl, rfl, rfl⟩) ?_
    exact (Ent.trans (Ent.one1 (a := wa) (g := g44) (l := S.initAckB tag tsn) pul pul rfl) ett)
theorem initialAck_no (rb : Nat) (l : List UInt8) (h : S.state ≠ 1) (L : List SA) :
    Fn Try.prog 32 [pt b 0, pt rb 0] (rd.R rb l false :: aB b p S :: L) (fun v L' => v = .tuple #[.slice none 0 0, .slice none 0 0, vN 9] ∧ L' = aB b p S :: L) := by
  refine Fn.of (N := 47) Try.func32 rfl rfl ?_
  intro Xh
  refine TC.seq ?_
  refine TC.region ?_
  refine TL.val rfl rfl rfl (Y.assign rfl rfl) ?_
  refine TL.val rfl rfl rfl (Y.assign rfl rfl) ?_
  refine TL.val rfl rfl rfl (Y.assign rfl rfl) ?_
  refine TL.nil ?_
  refine TQ.next ?_
  refine TC.seq ?_
  refine TC.seq ?_
  refine TC.region ?_
  refine TL.val rfl rfl rfl (Y.move rfl rfl) ?_
  refine TL.val rfl rfl rfl (Y.nilCheck rfl rfl) ?_
  refine TL.val rfl rfl rfl (by first | exact Y.fieldAddrJ rfl fo68_3 rfl nqq | exact Y.fieldAddr rfl fo68_3 rfl nqq) ?_
  refine TL.val rfl rfl rfl (Y.load rfl sc3 rfl celN) ?_
  refine TL.as (vN S.state) (by rfl) ?_
  refine TL.val rfl rfl rfl (Y.bin rfl rfl rfl (br_neN (n := 1))) ?_
  refine TL.is true (by simpa using h) ?_
  refine TL.nil ?_
  refine TQ.next ?_
  refine TC.cond_t rfl ?_
  refine TC.seq ?_
  refine TC.region ?_
  refine TL.val rfl rfl rfl (Y.assign rfl rfl) ?_
  refine TL.val rfl rfl rfl (Y.assign rfl rfl) ?_
  refine TL.val rfl rfl rfl (Y.assign rfl rfl) ?_
  refine TL.nil ?_
  refine TQ.next ?_
  refine TC.ret ?_
  refine TQ.then_ret ?_
  refine TQ.retE (resL rfl (Res.tmp rfl (Res.tmp rfl (Res.tmp rfl Res.nil)))) (⟨rfl, rfl⟩) ?_
  exact ett
set_option maxHeartbeats 1000000 in
theorem initialAck_yes (rb : Nat) (l : List UInt8) (hl : l.length = 44) (h : S.state = 1) (L : List SA) :
    Fn Try.prog 32 [pt b 0, pt rb 0] (rd.R rb l false :: aB b p S :: L)
      (fun v L' => ∃ (o : Sl Bs) (ha : Option Addr) (hc : Nat), v = .tuple #[o.v, .slice none 0 0, vN 0] ∧ o.l.map (·.l) = [echoB (num (l.take 4)) (l.drop 8)] ∧
        L' = SA.dat o :: aB b { p with ha := ha, hc := hc } (S.echo (num (l.take 4)) (num ((l.drop 4).take 4)) (l.drop 8)) :: aH { p with ha := ha, hc := hc } (S.echo (num (l.take 4)) (num ((l.drop 4).take 4)) (l.drop 8)) :: L) := by
  obtain ⟨tag, htag⟩ : ∃ t, t = num (l.take 4) := ⟨_, rfl⟩
  obtain ⟨tsn, htsn⟩ : ∃ t, t = num ((l.drop 4).take 4) := ⟨_, rfl⟩
  obtain ⟨c, hc⟩ : ∃ c, c = l.drop 8 := ⟨_, rfl⟩
  have hcl : c.length = 36 := by rw [hc, List.length_drop]; omega
  have hel : (echoB tag c).length = 44 := by rw [echoB, List.length_append, hcl]; rfl
  rw [← htag, ← htsn, ← hc]
  refine Fn.of (N := 47) Try.func32 rfl rfl ?_
  intro Xh
  refine TC.seq ?_
  refine TC.region ?_
  refine TL.val rfl rfl rfl (Y.assign rfl rfl) ?_
  refine TL.val rfl rfl rfl (Y.assign rfl rfl) ?_
  refine TL.val rfl rfl rfl (Y.assign rfl rfl) ?_
  refine TL.nil ?_
  refine TQ.next ?_
  refine TC.seq ?_
  refine TC.seq ?_
  refine TC.region ?_
  refine TL.val rfl rfl rfl (Y.move rfl rfl) ?_
  refine TL.val rfl rfl rfl (Y.nilCheck rfl rfl) ?_
  refine TL.val rfl rfl rfl (by first | exact Y.fieldAddrJ rfl fo68_3 rfl nqq | exact Y.fieldAddr rfl fo68_3 rfl nqq) ?_
  refine TL.val rfl rfl rfl (Y.load rfl sc3 rfl celN) ?_
  refine TL.as (vN S.state) (by rfl) ?_
  refine TL.val rfl rfl rfl (Y.bin rfl rfl rfl (br_neN (n := 1))) ?_
  refine TL.is false (by simpa using h) ?_
  refine TL.nil ?_
  refine TQ.next ?_
  refine TC.cond_f rfl ?_
  refine TC.skip ?_
  refine TQ.next ?_
  refine TC.seq ?_
  refine TC.region ?_
  refine TL.val rfl rfl rfl (Y.move rfl rfl) ?_
  refine TL.val rfl rfl rfl (Y.move rfl rfl) ?_
  refine TL.val rfl rfl rfl (Y.move rfl rfl) ?_
  refine TL.val rfl rfl rfl (Y.move rfl rfl) ?_
  refine TL.eff rfl rfl rfl (X.call rfl Try.func27 (by kernel_rfl) rfl rfl (Fn.preE (by repeat first | (with_reducible apply Ent.refl) | (apply Ent.cons; case h => first | (with_reducible (repeat first | apply Pull.here | apply Pull.there); done) | (repeat first | apply Pull.here | apply Pull.there))) (u32_ok rb l (by omega) _))) ?_
  rintro _ _ ⟨rfl, rfl⟩
  rw [← htag]
  refine TL.val rfl rfl rfl (Y.move rfl rfl) ?_
  refine TL.eff rfl rfl rfl (X.call rfl Try.func27 (by kernel_rfl) rfl rfl (Fn.preE (by repeat first | (with_reducible apply Ent.refl) | (apply Ent.cons; case h => first | (with_reducible (repeat first | apply Pull.here | apply Pull.there); done) | (repeat first | apply Pull.here | apply Pull.there))) (u32_ok rb (l.drop 4) (by rw [List.length_drop]; omega) _))) ?_
  rintro _ _ ⟨rfl, rfl⟩
  rw [← htsn, List.drop_drop, ← hc]
  refine TL.val rfl rfl rfl (Y.bin rfl rfl rfl (br_sub32 (y := 1))) ?_
  refine TL.val rfl rfl rfl (Y.nilCheck rfl rfl) ?_
  refine TL.val rfl rfl rfl (by first | exact Y.fieldAddrJ rfl fo68_4 rfl nqq | exact Y.fieldAddr rfl fo68_4 rfl nqq) ?_
  refine TL.eff0 rfl rfl (X.store (cs' := asC p { S with known := true }) rfl (by kernel_rfl) rfl rfl rfl pul (by show 4 < 17; decide) rfl) ?_
  rintro _ _ rfl
  refine TL.val rfl rfl rfl (Y.nilCheck rfl rfl) ?_
  refine TL.val rfl rfl rfl (by first | exact Y.fieldAddrJ rfl fo68_5 rfl nqq | exact Y.fieldAddr rfl fo68_5 rfl nqq) ?_
  refine TL.eff0 rfl rfl (X.store (cs' := asC p { S with known := true, other := tag }) rfl (by kernel_rfl) rfl rfl rfl pul (by show 5 < 17; decide) rfl) ?_
  rintro _ _ rfl
  refine TL.val rfl rfl rfl (Y.nilCheck rfl rfl) ?_
  refine TL.val rfl rfl rfl (by first | exact Y.fieldAddrJ rfl fo68_6 rfl nqq | exact Y.fieldAddr rfl fo68_6 rfl nqq) ?_
  refine TL.eff0 rfl rfl (X.store (cs' := asC p { S with known := true, other := tag, top := tsn - 1 }) rfl (by kernel_rfl) rfl rfl rfl pul (by show 6 < 17; decide) rfl) ?_
  rintro _ _ rfl
  refine TL.nil ?_
  refine TQ.next ?_
  refine TC.seq ?_
  refine TC.region ?_
  refine TL.val rfl rfl rfl (Y.move rfl rfl) ?_
  refine TL.val rfl rfl rfl (Y.nilCheck rfl rfl) ?_
  refine TL.val rfl rfl rfl (by first | exact Y.fieldAddrJ rfl fo68_5 rfl nqq | exact Y.fieldAddr rfl fo68_5 rfl nqq) ?_
  refine TL.val rfl rfl rfl (Y.load rfl sc22 rfl cel32) ?_
  refine TL.as (v32 tag) (by rfl) ?_
  refine TL.eff rfl rfl rfl (X.call rfl Try.func44 (by kernel_rfl) rfl rfl (Fn.preE (by repeat first | (with_reducible apply Ent.refl) | (apply Ent.cons; case h => first | (with_reducible (repeat first | apply Pull.here | apply Pull.there); done) | (repeat first | apply Pull.here | apply Pull.there))) (packet_fn tag 3 _))) ?_
  rintro _ _ ⟨a31, c31, rfl, rfl⟩
  refine TL.eff rfl rfl rfl (X.alloc rfl zc85) ?_
  rintro _ _ ⟨b7, rfl, rfl⟩
  refine TL.eff0 rfl rfl (by first | exact X.store rfl sz85 rfl rfl rfl pul lnn (by first | exact setM | rfl) | exact X.storeOwn rfl sz85 rfl (Nat.zero_add _).symm rfl rfl pul lnn (by first | exact setML | rfl) | exact X.storeOwn rfl sz85 rfl rfl rfl rfl pul lnn (by first | exact setML | rfl)) ?_
  rintro _ _ rfl
  refine TL.nil ?_
  refine TQ.to (wr.put (b := b7) pul (by rfl) pul (l := pkt tag 3) rfl rfl Ent.refl) ?_
  refine TQ.next ?_
  refine TC.seq ?_
  refine TC.region ?_
  refine TL.val rfl rfl rfl (Y.move rfl rfl) ?_
  refine TL.eff rfl rfl rfl (X.call rfl Try.func35 (by kernel_rfl) rfl rfl (Fn.preE (by repeat first | (with_reducible apply Ent.refl) | (apply Ent.cons; case h => first | (with_reducible (repeat first | apply Pull.here | apply Pull.there); done) | (repeat first | apply Pull.here | apply Pull.there))) (take_ok rb 36 c (by omega) (by omega) _))) ?_
  rintro _ _ ⟨a33, c33, rfl, rfl⟩
  rw [List.take_of_length_le (by omega : c.length ≤ 36)]
  refine TL.eff rfl rfl rfl (X.call rfl Try.func48 (by kernel_rfl) rfl rfl (Fn.preE (by repeat first | (with_reducible apply Ent.refl) | (apply Ent.cons; case h => first | (with_reducible (repeat first | apply Pull.here | apply Pull.there); done) | (repeat first | apply Pull.here | apply Pull.there))) (wr.Bytes_fn (SA.owns 5 1 (.slice a33 36 c33) 36 (c.map v8)) b7 36 a33 c33 _ c Reads.owns hcl (by show 8 + 36 ≤ _; decide) _))) ?_
  rintro _ _ ⟨rfl, rfl⟩
  rw [show pkt tag 3 ++ c = echoB tag c from rfl]
  refine TL.nil ?_
  refine TQ.next ?_
  refine TC.seq ?_
  refine TC.open pul ?_
  rintro ⟨wa, wc⟩
  refine TC.split pul ?_
  refine TC.to ((Pull.ent (A := SA.owns 5 1 (.slice wa (echoB tag c).length wc) (echoB tag c).length ((echoB tag c).map v8)) pul).trans Ent.freeze) ?_
  refine TC.region ?_
  refine TL.val rfl rfl rfl (Y.move rfl rfl) ?_
  refine TL.val rfl rfl rfl (Y.move rfl rfl) ?_
  refine TL.val rfl rfl rfl (Y.load rfl sc85 rfl celD) ?_
  refine TL.val rfl rfl rfl (Y.nilCheck rfl rfl) ?_
  refine TL.val rfl rfl rfl (by first | exact Y.fieldAddrJ rfl fo68_3 rfl nqq | exact Y.fieldAddr rfl fo68_3 rfl nqq) ?_
  refine TL.eff0 rfl rfl (X.store (cs' := asC p { S with known := true, other := tag, top := tsn - 1, state := 2 }) rfl (by kernel_rfl) rfl rfl rfl pul (by show 3 < 17; decide) rfl) ?_
  rintro _ _ rfl
  refine TL.val rfl rfl rfl (Y.nilCheck rfl rfl) ?_
  refine TL.val rfl rfl rfl (by first | exact Y.fieldAddrJ rfl fo68_13 rfl nqq | exact Y.fieldAddr rfl fo68_13 rfl nqq) ?_
  refine TL.eff0 rfl rfl (X.store (cs' := asC { p with ha := wa, hc := wc } { S with known := true, other := tag, top := tsn - 1, state := 2, shake := echoB tag c }) rfl (by kernel_rfl) rfl rfl rfl pul (by show 16 < 17; decide) rfl) ?_
  rintro _ _ rfl
  refine TL.nil ?_
  refine TQ.next ?_
  refine TC.seq ?_
  refine TC.region ?_
  refine TL.val rfl rfl rfl (Y.move rfl rfl) ?_
  refine TL.eff rfl rfl rfl (X.call rfl Try.func46 (by kernel_rfl) rfl rfl (Fn.preE (by repeat first | (with_reducible apply Ent.refl) | (apply Ent.cons; case h => first | (with_reducible (repeat first | apply Pull.here | apply Pull.there); done) | (repeat first | apply Pull.here | apply Pull.there))) (start_fn b { p with ha := wa, hc := wc } { S with known := true, other := tag, top := tsn - 1, state := 2, shake := echoB tag c } _))) ?_
  rintro _ _ ⟨rfl, rfl⟩
  refine TL.nil ?_
  refine TQ.next ?_
  refine TC.seq ?_
  refine TC.region ?_
  refine TL.val rfl rfl rfl (Y.load rfl sc85 rfl celD) ?_
  refine TL.eff rfl rfl rfl (X.call rfl Try.func25 (by kernel_rfl) rfl rfl (Fn.preE (by repeat first | (with_reducible apply Ent.refl) | (apply Ent.cons; case h => first | (with_reducible (repeat first | apply Pull.here | apply Pull.there); done) | (repeat first | apply Pull.here | apply Pull.there))) (rd.Clone_fn _ _ _ (echoB tag c) rfl (by omega) _))) ?_
  rintro _ _ ⟨a45, c45, rfl, rfl⟩
  refine TL.eff rfl rfl rfl (X.lit rfl el24 rfl rfl rfl (by decide) rfl) ?_
  rintro _ _ ⟨g46, rfl, rfl⟩
  refine TL.val rfl rfl rfl (Y.assign rfl rfl) ?_
  refine TL.val rfl rfl rfl (Y.assign rfl rfl) ?_
  refine TL.val rfl rfl rfl (Y.assign rfl rfl) ?_
  refine TL.nil ?_
  refine TQ.next ?_
  refine TC.ret ?_
  refine TQ.retE (resL rfl (Res.tmp rfl (Res.tmp rfl (Res.tmp rfl Res.nil)))) (⟨⟨some ⟨g46, 0, none⟩, 1, [⟨a45, c45, echoB tag c⟩]⟩, wa, wc, rfl, rfl, rfl⟩) ?_
  exact (Ent.trans (Ent.one1 (a := a45) (g := g46) (l := echoB tag c) pul pul rfl) ett)
end
end ac
end Go.Proofs.Ytomplpdeeomehaa
