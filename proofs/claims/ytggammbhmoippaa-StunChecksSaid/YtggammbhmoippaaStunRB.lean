/- The document's Build, walked. -/
import Derived.Test.YtggammbhmoippaaStunB
import Derived.Test.YtggammbhmoippaaHAuto
namespace Go.Proofs.Ytggammbhmoippaa
set_option linter.unusedVariables false
set_option linter.unusedSimpArgs false
open Go.RowKit
namespace stun
open wr (pad4 pad4_length pad4_mod pad4_head pad4_step pad4_done be16 be32)
open r1 (be2 be4 be2_len be4_len)
namespace FxStunRB
set_option maxRecDepth 100000
theorem el27 : Elt Try.prog 27 5 1 1 (.int .u8 0) := ⟨Try.underlying27, by kernel_rfl, rfl, by decide, by simp [Value.cells, Value.oneCell']⟩
theorem el89 : Elt Try.prog 89 27 1 24 (.slice none 0 0) := ⟨Try.underlying89, by kernel_rfl, rfl, by decide, by simp [Value.cells, Value.oneCell']⟩
theorem fo25_0 : Program.fieldOff Try.prog 25 0 = some 0 := by kernel_rfl
theorem fo25_1 : Program.fieldOff Try.prog 25 1 = some 1 := by kernel_rfl
theorem fo25_2 : Program.fieldOff Try.prog 25 2 = some 2 := by kernel_rfl
theorem fo25_3 : Program.fieldOff Try.prog 25 3 = some 14 := by kernel_rfl
theorem fo65_0 : Program.fieldOff Try.prog 65 0 = some 0 := by kernel_rfl
theorem fo65_1 : Program.fieldOff Try.prog 65 1 = some 1 := by kernel_rfl
theorem sc23 : Program.isSc Try.prog 23 = true := by kernel_rfl
theorem sc27 : Program.isSc Try.prog 27 = true := by kernel_rfl
theorem sc3 : Program.isSc Try.prog 3 = true := by kernel_rfl
theorem sc44 : Program.isSc Try.prog 44 = true := by kernel_rfl
theorem sl23 : Program.slI Try.prog 23 = some 2 := by kernel_rfl
theorem sz5 : (Try.prog.info? 5).map (·.size) = some 1 := by kernel_rfl
end FxStunRB
open FxStunRB
theorem be4_magic : be4 554869826 = magicB := rfl
theorem bad_attr {m : SMsg} {a : PA} (h : a ∈ m.attrs) (hl : 512 < a.2.length) : m.build = none := by
  have : m.good = false := by
    cases hg : m.good with
    | false => rfl
    | true => have := (good_parts hg).1 a h; omega
  simp [SMsg.build, this]
set_option maxHeartbeats 1000000 in
theorem refBuild_bad (c m : Int) (f : Nat → UInt8) (a : Option Addr) (cap : Nat) (l : List At) (hbad : c < 0 ∨ 3 < c ∨ m < 0 ∨ 4095 < m ∨ 16 < l.length) (L : List SA) :
    Fn Try.prog 10 [.agg (msgC c m f (.slice a l.length cap))] (SA.dat (⟨a, cap, l⟩ : Sl At) :: L) (fun v L' => v = .tuple #[.slice none 0 0, vN 1] ∧ L' = SA.dat (⟨a, cap, l⟩ : Sl At) :: L) := by
  refine Fn.of (N := 110) Try.func10 rfl rfl ?_
  intro Xh
  refine TC.seq ?_
  refine TC.region ?_
  refine TL.eff rfl rfl rfl (X.boxA rfl rfl) ?_
  rintro _ _ ⟨b1, rfl, rfl⟩
  refine TL.val rfl rfl rfl (Y.assign rfl rfl) ?_
  refine TL.val rfl rfl rfl (Y.assign rfl rfl) ?_
  refine TL.nil ?_
  refine TQ.next ?_
  refine TC.seq ?_
  refine TC.seq ?_
  refine TC.region ?_
  refine TL.val rfl rfl rfl (by first | exact Y.fieldAddrJ rfl fo25_0 rfl nqq | exact Y.fieldAddr rfl fo25_0 rfl nqq) ?_
  refine TL.val rfl rfl rfl (Y.load rfl sc3 rfl celN) ?_
  refine TL.val rfl rfl rfl (Y.bin rfl rfl rfl (br_ltI (n := 0))) ?_
  refine TL.val rfl rfl rfl (Y.move rfl rfl) ?_
  refine TL.case (fun g1_3 => ?_) (fun g1_3 => ?_)
  · try simp only [decide_eq_true_eq, decide_eq_false_iff_not, Bool.not_eq_true', Bool.not_eq_false', Nat.not_lt, Nat.not_le, beq_iff_eq, bne_iff_ne] at g1_3
    refine TL.not rfl rfl rfl ?_
    refine TL.not rfl rfl rfl ?_
    refine TL.not rfl rfl rfl ?_
    refine TL.val rfl rfl rfl (Y.pick_t rfl rfl rfl) ?_
    refine TL.val rfl rfl rfl (Y.move rfl rfl) ?_
    refine TL.not rfl rfl rfl ?_
    refine TL.not rfl rfl rfl ?_
    refine TL.not rfl rfl rfl ?_
    refine TL.val rfl rfl rfl (Y.pick_t rfl rfl rfl) ?_
    refine TL.val rfl rfl rfl (Y.move rfl rfl) ?_
    refine TL.not rfl rfl rfl ?_
    refine TL.not rfl rfl rfl ?_
    refine TL.not rfl rfl rfl ?_
    refine TL.val rfl rfl rfl (Y.pick_t rfl rfl rfl) ?_
    refine TL.val rfl rfl rfl (Y.move rfl rfl) ?_
    refine TL.not rfl rfl rfl ?_
    refine TL.not rfl rfl rfl ?_
    refine TL.not rfl rfl rfl ?_
    refine TL.not rfl rfl rfl ?_
    refine TL.val rfl rfl rfl (Y.pick_t rfl rfl rfl) ?_
    refine TL.nil ?_
    refine TQ.next ?_
    refine TC.cond_t rfl ?_
    refine TC.seq ?_
    refine TC.region ?_
    refine TL.val rfl rfl rfl (Y.assign rfl rfl) ?_
    refine TL.val rfl rfl rfl (Y.assign rfl rfl) ?_
    refine TL.nil ?_
    refine TQ.next ?_
    refine TC.ret ?_
    refine TQ.then_ret ?_
    refine TQ.retE (res2 rfl rfl rfl) (⟨rfl, rfl⟩) ?_
    exact ett
  · try simp only [decide_eq_true_eq, decide_eq_false_iff_not, Bool.not_eq_true', Bool.not_eq_false', Nat.not_lt, Nat.not_le, beq_iff_eq, bne_iff_ne] at g1_3
    refine TL.valG rfl rfl rfl (by first | exact Y.fieldAddrJ rfl fo25_0 rfl nqq | exact Y.fieldAddr rfl fo25_0 rfl nqq) ?_
    refine TL.valG rfl rfl rfl (Y.load rfl sc3 rfl celN) ?_
    refine TL.valG rfl rfl rfl (Y.bin rfl rfl rfl (br_gtI (n := 3))) ?_
    refine TL.val rfl rfl rfl (Y.pick_f rfl rfl rfl) ?_
    refine TL.val rfl rfl rfl (Y.move rfl rfl) ?_
    refine TL.case (fun g1_8 => ?_) (fun g1_8 => ?_)
    · try simp only [decide_eq_true_eq, decide_eq_false_iff_not, Bool.not_eq_true', Bool.not_eq_false', Nat.not_lt, Nat.not_le, beq_iff_eq, bne_iff_ne] at g1_8
      refine TL.not rfl rfl rfl ?_
      refine TL.not rfl rfl rfl ?_
      refine TL.not rfl rfl rfl ?_
      refine TL.val rfl rfl rfl (Y.pick_t rfl rfl rfl) ?_
      refine TL.val rfl rfl rfl (Y.move rfl rfl) ?_
      refine TL.not rfl rfl rfl ?_
      refine TL.not rfl rfl rfl ?_
      refine TL.not rfl rfl rfl ?_
      refine TL.val rfl rfl rfl (Y.pick_t rfl rfl rfl) ?_
      refine TL.val rfl rfl rfl (Y.move rfl rfl) ?_
      refine TL.not rfl rfl rfl ?_
      refine TL.not rfl rfl rfl ?_
      refine TL.not rfl rfl rfl ?_
      refine TL.not rfl rfl rfl ?_
      refine TL.val rfl rfl rfl (Y.pick_t rfl rfl rfl) ?_
      refine TL.nil ?_
      refine TQ.next ?_
      refine TC.cond_t rfl ?_
      refine TC.seq ?_
      refine TC.region ?_
      refine TL.val rfl rfl rfl (Y.assign rfl rfl) ?_
      refine TL.val rfl rfl rfl (Y.assign rfl rfl) ?_
      refine TL.nil ?_
      refine TQ.next ?_
      refine TC.ret ?_
      refine TQ.then_ret ?_
      refine TQ.retE (res2 rfl rfl rfl) (⟨rfl, rfl⟩) ?_
      exact ett
    · try simp only [decide_eq_true_eq, decide_eq_false_iff_not, Bool.not_eq_true', Bool.not_eq_false', Nat.not_lt, Nat.not_le, beq_iff_eq, bne_iff_ne] at g1_8
      refine TL.valG rfl rfl rfl (by first | exact Y.fieldAddrJ rfl fo25_1 rfl nqq | exact Y.fieldAddr rfl fo25_1 rfl nqq) ?_
      refine TL.valG rfl rfl rfl (Y.load rfl sc3 rfl celN) ?_
      refine TL.valG rfl rfl rfl (Y.bin rfl rfl rfl (br_ltI (n := 0))) ?_
      refine TL.val rfl rfl rfl (Y.pick_f rfl rfl rfl) ?_
      refine TL.val rfl rfl rfl (Y.move rfl rfl) ?_
      refine TL.case (fun g1_13 => ?_) (fun g1_13 => ?_)
      · try simp only [decide_eq_true_eq, decide_eq_false_iff_not, Bool.not_eq_true', Bool.not_eq_false', Nat.not_lt, Nat.not_le, beq_iff_eq, bne_iff_ne] at g1_13
        refine TL.not rfl rfl rfl ?_
        refine TL.not rfl rfl rfl ?_
        refine TL.not rfl rfl rfl ?_
        refine TL.val rfl rfl rfl (Y.pick_t rfl rfl rfl) ?_
        refine TL.val rfl rfl rfl (Y.move rfl rfl) ?_
        refine TL.not rfl rfl rfl ?_
        refine TL.not rfl rfl rfl ?_
        refine TL.not rfl rfl rfl ?_
        refine TL.not rfl rfl rfl ?_
        refine TL.val rfl rfl rfl (Y.pick_t rfl rfl rfl) ?_
        refine TL.nil ?_
        refine TQ.next ?_
        refine TC.cond_t rfl ?_
        refine TC.seq ?_
        refine TC.region ?_
        refine TL.val rfl rfl rfl (Y.assign rfl rfl) ?_
        refine TL.val rfl rfl rfl (Y.assign rfl rfl) ?_
        refine TL.nil ?_
        refine TQ.next ?_
        refine TC.ret ?_
        refine TQ.then_ret ?_
        refine TQ.retE (res2 rfl rfl rfl) (⟨rfl, rfl⟩) ?_
        exact ett
      · try simp only [decide_eq_true_eq, decide_eq_false_iff_not, Bool.not_eq_true', Bool.not_eq_false', Nat.not_lt, Nat.not_le, beq_iff_eq, bne_iff_ne] at g1_13
        refine TL.valG rfl rfl rfl (by first | exact Y.fieldAddrJ rfl fo25_1 rfl nqq | exact Y.fieldAddr rfl fo25_1 rfl nqq) ?_
        refine TL.valG rfl rfl rfl (Y.load rfl sc3 rfl celN) ?_
        refine TL.valG rfl rfl rfl (Y.bin rfl rfl rfl (br_gtI (n := 4095))) ?_
        refine TL.val rfl rfl rfl (Y.pick_f rfl rfl rfl) ?_
        refine TL.val rfl rfl rfl (Y.move rfl rfl) ?_
        refine TL.case (fun g1_18 => ?_) (fun g1_18 => ?_)
        · try simp only [decide_eq_true_eq, decide_eq_false_iff_not, Bool.not_eq_true', Bool.not_eq_false', Nat.not_lt, Nat.not_le, beq_iff_eq, bne_iff_ne] at g1_18
          refine TL.not rfl rfl rfl ?_
          refine TL.not rfl rfl rfl ?_
          refine TL.not rfl rfl rfl ?_
          refine TL.not rfl rfl rfl ?_
          refine TL.val rfl rfl rfl (Y.pick_t rfl rfl rfl) ?_
          refine TL.nil ?_
          refine TQ.next ?_
          refine TC.cond_t rfl ?_
          refine TC.seq ?_
          refine TC.region ?_
          refine TL.val rfl rfl rfl (Y.assign rfl rfl) ?_
          refine TL.val rfl rfl rfl (Y.assign rfl rfl) ?_
          refine TL.nil ?_
          refine TQ.next ?_
          refine TC.ret ?_
          refine TQ.then_ret ?_
          refine TQ.retE (res2 rfl rfl rfl) (⟨rfl, rfl⟩) ?_
          exact ett
        · try simp only [decide_eq_true_eq, decide_eq_false_iff_not, Bool.not_eq_true', Bool.not_eq_false', Nat.not_lt, Nat.not_le, beq_iff_eq, bne_iff_ne] at g1_18
          refine TL.valG rfl rfl rfl (by first | exact Y.fieldAddrJ rfl fo25_3 rfl nqq | exact Y.fieldAddr rfl fo25_3 rfl nqq) ?_
          refine TL.valG rfl rfl rfl (Y.load rfl sc23 rfl celD) ?_
          refine TL.valG rfl rfl rfl (Y.len rfl Try.underlying23 rfl) ?_
          refine TL.valG rfl rfl rfl (Y.bin rfl rfl rfl (br_gtN (n := 16))) ?_
          refine TL.val rfl rfl rfl (Y.pick_f rfl rfl rfl) ?_
          refine TL.nil ?_
          refine TQ.next ?_
          refine TC.cond rfl (fun c0 => ?_) (fun c0 => ?_)
          · try simp only [decide_eq_true_eq, decide_eq_false_iff_not, Bool.not_eq_true', Bool.not_eq_false', Bool.and_eq_true, Bool.or_eq_true, Nat.not_lt, Nat.not_le, beq_iff_eq, bne_iff_ne] at c0
            refine TC.seq ?_
            refine TC.region ?_
            refine TL.val rfl rfl rfl (Y.assign rfl rfl) ?_
            refine TL.val rfl rfl rfl (Y.assign rfl rfl) ?_
            refine TL.nil ?_
            refine TQ.next ?_
            refine TC.ret ?_
            refine TQ.then_ret ?_
            refine TQ.retE (res2 rfl rfl rfl) (⟨rfl, rfl⟩) ?_
            exact ett
          · try simp only [decide_eq_true_eq, decide_eq_false_iff_not, Bool.not_eq_true', Bool.not_eq_false', Bool.and_eq_true, Bool.or_eq_true, Nat.not_lt, Nat.not_le, beq_iff_eq, bne_iff_ne] at c0
            exfalso
            omega --stop
set_option maxHeartbeats 2000000 in
theorem refBuild_good (c m : Nat) (f : Nat → UInt8) (a : Option Addr) (cap : Nat) (l : List At) (hcn : c ≤ 3) (hmn : m ≤ 4095) (hl16 : l.length ≤ 16) (L : List SA) :
    Fn Try.prog 10 [.agg (msgC c m f (.slice a l.length cap))] (SA.dat (⟨a, cap, l⟩ : Sl At) :: L)
      (fun v L' => ∃ b c', v = .tuple #[.slice b (ob (SM c m f ⟨a, cap, l⟩).build).length c', vN (oe (SM c m f ⟨a, cap, l⟩).build)] ∧
        L' = SA.owns 5 1 (.slice b (ob (SM c m f ⟨a, cap, l⟩).build).length c') (ob (SM c m f ⟨a, cap, l⟩).build).length ((ob (SM c m f ⟨a, cap, l⟩).build).map v8) :: SA.dat (⟨a, cap, l⟩ : Sl At) :: L) := by
  have hkl := kindOf_lt c m hcn hmn
  refine Fn.of (N := 110) Try.func10 rfl rfl ?_
  intro Xh
  refine TC.seq ?_
  refine TC.region ?_
  refine TL.eff rfl rfl rfl (X.boxA rfl rfl) ?_
  rintro _ _ ⟨b1, rfl, rfl⟩
  refine TL.val rfl rfl rfl (Y.assign rfl rfl) ?_
  refine TL.val rfl rfl rfl (Y.assign rfl rfl) ?_
  refine TL.nil ?_
  refine TQ.next ?_
  refine TC.seq ?_
  refine TC.seq ?_
  refine TC.region ?_
  refine TL.val rfl rfl rfl (by first | exact Y.fieldAddrJ rfl fo25_0 rfl nqq | exact Y.fieldAddr rfl fo25_0 rfl nqq) ?_
  refine TL.val rfl rfl rfl (Y.load rfl sc3 rfl celN) ?_
  refine TL.val rfl rfl rfl (Y.bin rfl rfl rfl (br_ltN (n := 0))) ?_
  refine TL.is false (by first | rfl | (simp only [decide_eq_true_eq, decide_eq_false_iff_not, Bool.not_eq_true', Bool.not_eq_false', Bool.not_eq_eq_eq_not, Bool.not_true, Bool.not_false, Nat.not_lt, Nat.not_le]; omega) | (simp [*]; done) | (simp; omega)) ?_
  refine TL.val rfl rfl rfl (Y.move rfl rfl) ?_
  refine TL.valG rfl rfl rfl (by first | exact Y.fieldAddrJ rfl fo25_0 rfl nqq | exact Y.fieldAddr rfl fo25_0 rfl nqq) ?_
  refine TL.valG rfl rfl rfl (Y.load rfl sc3 rfl celN) ?_
  refine TL.valG rfl rfl rfl (Y.bin rfl rfl rfl (br_gtN (n := 3))) ?_
  refine TL.is false (by first | rfl | (simp only [decide_eq_true_eq, decide_eq_false_iff_not, Bool.not_eq_true', Bool.not_eq_false', Bool.not_eq_eq_eq_not, Bool.not_true, Bool.not_false, Nat.not_lt, Nat.not_le]; omega) | (simp [*]; done) | (simp; omega)) ?_
  refine TL.val rfl rfl rfl (Y.pick_f rfl rfl rfl) ?_
  refine TL.val rfl rfl rfl (Y.move rfl rfl) ?_
  refine TL.valG rfl rfl rfl (by first | exact Y.fieldAddrJ rfl fo25_1 rfl nqq | exact Y.fieldAddr rfl fo25_1 rfl nqq) ?_
  refine TL.valG rfl rfl rfl (Y.load rfl sc3 rfl celN) ?_
  refine TL.valG rfl rfl rfl (Y.bin rfl rfl rfl (br_ltN (n := 0))) ?_
  refine TL.is false (by first | rfl | (simp only [decide_eq_true_eq, decide_eq_false_iff_not, Bool.not_eq_true', Bool.not_eq_false', Bool.not_eq_eq_eq_not, Bool.not_true, Bool.not_false, Nat.not_lt, Nat.not_le]; omega) | (simp [*]; done) | (simp; omega)) ?_
  refine TL.val rfl rfl rfl (Y.pick_f rfl rfl rfl) ?_
  refine TL.val rfl rfl rfl (Y.move rfl rfl) ?_
  refine TL.valG rfl rfl rfl (by first | exact Y.fieldAddrJ rfl fo25_1 rfl nqq | exact Y.fieldAddr rfl fo25_1 rfl nqq) ?_
  refine TL.valG rfl rfl rfl (Y.load rfl sc3 rfl celN) ?_
  refine TL.valG rfl rfl rfl (Y.bin rfl rfl rfl (br_gtN (n := 4095))) ?_
  refine TL.is false (by first | rfl | (simp only [decide_eq_true_eq, decide_eq_false_iff_not, Bool.not_eq_true', Bool.not_eq_false', Bool.not_eq_eq_eq_not, Bool.not_true, Bool.not_false, Nat.not_lt, Nat.not_le]; omega) | (simp [*]; done) | (simp; omega)) ?_
  refine TL.val rfl rfl rfl (Y.pick_f rfl rfl rfl) ?_
  refine TL.val rfl rfl rfl (Y.move rfl rfl) ?_
  refine TL.valG rfl rfl rfl (by first | exact Y.fieldAddrJ rfl fo25_3 rfl nqq | exact Y.fieldAddr rfl fo25_3 rfl nqq) ?_
  refine TL.valG rfl rfl rfl (Y.load rfl sc23 rfl celD) ?_
  refine TL.valG rfl rfl rfl (Y.len rfl Try.underlying23 rfl) ?_
  refine TL.valG rfl rfl rfl (Y.bin rfl rfl rfl (br_gtN (n := 16))) ?_
  refine TL.is false (by first | rfl | (simp only [decide_eq_true_eq, decide_eq_false_iff_not, Bool.not_eq_true', Bool.not_eq_false', Bool.not_eq_eq_eq_not, Bool.not_true, Bool.not_false, Nat.not_lt, Nat.not_le]; omega) | (simp [*]; done) | (simp; omega)) ?_
  refine TL.val rfl rfl rfl (Y.pick_f rfl rfl rfl) ?_
  refine TL.nil ?_
  refine TQ.next ?_
  refine TC.cond_f rfl ?_
  refine TC.skip ?_
  refine TQ.next ?_
  refine TC.seq ?_
  refine TC.region ?_
  refine TL.val rfl rfl rfl (Y.assign rfl rfl) ?_
  refine TL.nil ?_
  refine TQ.next ?_
  refine TC.seq ?_
  refine TC.seq ?_
  refine TC.region ?_
  refine TL.val rfl rfl rfl (by first | exact Y.fieldAddrJ rfl fo25_3 rfl nqq | exact Y.fieldAddr rfl fo25_3 rfl nqq) ?_
  refine TL.val rfl rfl rfl (Y.load rfl sc23 rfl celD) ?_
  refine TL.val rfl rfl rfl (Y.len rfl Try.underlying23 rfl) ?_
  refine TL.val rfl rfl rfl (Y.move rfl rfl) ?_
  refine TL.nil ?_
  refine TQ.next ?_
  refine TC.block ?_
  refine TC.to (Ent.nilOwn 5 1) ?_
  refine TC.loopF (ι := Nat × Option Addr × Nat) [2, 3] (fun i => i.1 ≤ l.length ∧ ∀ x ∈ (l.map pl).take i.1, x.2.length ≤ 512) (fun i => [(36, some (vN i.1)), (4, some (.slice i.2.1 (bodyFrom [] ((l.map pl).take i.1)).length i.2.2))]) (fun i => [SA.owns 5 1 (.slice i.2.1 (bodyFrom [] ((l.map pl).take i.1)).length i.2.2) (bodyFrom [] ((l.map pl).take i.1)).length ((bodyFrom [] ((l.map pl).take i.1)).map v8)]) (fun i => l.length - i.1) ((0, none, 0)) (⟨by omega, by simp⟩) ⟨rfl, rfl, trivial⟩ (Pulls.cons pul Pulls.nil) ?_
  rintro ⟨k, ba, bc⟩ ⟨hk, h512⟩ F' L' rfl hL'
  simp only [List.cons_append, List.nil_append] at hL'
  subst hL'
  simp only at hk h512 ⊢
  have hbl := bodyFrom_le ((l.map pl).take k) [] h512
  have hbl2 : ((l.map pl).take k).length ≤ 16 := by simp; omega
  generalize hB : bodyFrom [] ((l.map pl).take k) = B at *
  simp only [List.length_nil] at hbl
  refine TC.seq ?_
  refine TC.region ?_
  refine TL.val rfl rfl rfl (Y.bin rfl rfl rfl (br_ltN)) ?_
  refine TL.nil ?_
  refine TQ.next ?_
  refine TC.seq ?_
  refine TC.cond rfl (fun c1 => ?_) (fun c1 => ?_)
  · try simp only [decide_eq_true_eq, decide_eq_false_iff_not, Bool.not_eq_true', Bool.not_eq_false', Bool.and_eq_true, Bool.or_eq_true, Nat.not_lt, Nat.not_le, beq_iff_eq, bne_iff_ne] at c1
    refine TC.skip ?_
    refine TQ.next ?_
    refine TC.seq ?_
    refine TC.block ?_
    refine TC.seq ?_
    obtain ⟨⟨t, a1, ac, bs⟩, hx, hxm⟩ := getS (l := l) (i := k) (by omega)
    refine TC.know (dat_some (a := a) inn (by omega)) ?_
    rintro ⟨g, off, rfl⟩
    have hp := at_pl hx
    refine TC.to ((Pull.ent (A := SA.dat (⟨some ⟨g, off, none⟩, cap, l⟩ : Sl At)) pul).trans ((Ent.elem hxm).trans (Ent.snd.trans Ent.bytesOf))) ?_
    have htl := t.toNat_lt
    refine TC.region ?_
    refine TL.val rfl rfl rfl (Y.move rfl rfl) ?_
    refine TL.val rfl rfl rfl (Y.assign rfl rfl) ?_
    refine TL.nil ?_
    refine TQ.next ?_
    refine TC.seq ?_
    refine TC.region ?_
    refine TL.val rfl rfl rfl (by first | exact Y.fieldAddrJ rfl fo25_3 rfl nqq | exact Y.fieldAddr rfl fo25_3 rfl nqq) ?_
    refine TL.val rfl rfl rfl (Y.load rfl sc23 rfl celD) ?_
    refine TL.val rfl rfl rfl (Y.move rfl rfl) ?_
    refine TL.val rfl rfl rfl (by first | exact Y.indexSlB rfl sl23 rfl rfl (by omega) nqq | exact Y.indexSl rfl sl23 rfl rfl (by omega) nqq) ?_
    refine TL.val rfl rfl rfl (by first | exact Y.fieldAddrJ rfl fo65_1 rfl nqq | exact Y.fieldAddr rfl fo65_1 rfl nqq) ?_
    refine TL.val rfl rfl rfl (Y.load rfl sc27 rfl celD) ?_
    refine TL.as (.slice a1 bs.length ac) (by rfl) ?_
    refine TL.val rfl rfl rfl (Y.assign rfl rfl) ?_
    refine TL.nil ?_
    refine TQ.next ?_
    refine TC.seq ?_
    refine TC.seq ?_
    refine TC.region ?_
    refine TL.val rfl rfl rfl (Y.move rfl rfl) ?_
    refine TL.val rfl rfl rfl (Y.len rfl Try.underlying27 rfl) ?_
    refine TL.val rfl rfl rfl (Y.bin rfl rfl rfl (br_gtN (n := 512))) ?_
    refine TL.nil ?_
    refine TQ.next ?_
    refine TC.cond rfl (fun c2 => ?_) (fun c2 => ?_)
    · try simp only [decide_eq_true_eq, decide_eq_false_iff_not, Bool.not_eq_true', Bool.not_eq_false', Bool.and_eq_true, Bool.or_eq_true, Nat.not_lt, Nat.not_le, beq_iff_eq, bne_iff_ne] at c2
      have hb : (SM c m f ⟨some ⟨g, off, none⟩, cap, l⟩).build = none := bad_attr (a := (t, bs)) (List.mem_of_getElem? hp) (by simpa using c2)
      rw [hb]
      refine TC.to (Ent.nilOwn 5 1) ?_
      refine TC.seq ?_
      refine TC.region ?_
      refine TL.val rfl rfl rfl (Y.assign rfl rfl) ?_
      refine TL.val rfl rfl rfl (Y.assign rfl rfl) ?_
      refine TL.nil ?_
      refine TQ.next ?_
      refine TC.ret ?_
      refine TQ.then_ret ?_
      refine TQ.block_ret ?_
      refine TQ.then_ret ?_
      refine TQ.then_ret ?_
      refine TQ.block_ret ?_
      refine TQ.then_ret ?_
      refine TQ.retE (res2 rfl rfl rfl) (⟨_, _, rfl, rfl⟩) ?_
      exact ett
    · try simp only [decide_eq_true_eq, decide_eq_false_iff_not, Bool.not_eq_true', Bool.not_eq_false', Bool.and_eq_true, Bool.or_eq_true, Nat.not_lt, Nat.not_le, beq_iff_eq, bne_iff_ne] at c2
      refine TC.skip ?_
      refine TQ.next ?_
      refine TC.seq ?_
      refine TC.region ?_
      refine TL.val rfl rfl rfl (Y.move rfl rfl) ?_
      refine TL.val rfl rfl rfl (by first | exact Y.fieldAddrJ rfl fo25_3 rfl nqq | exact Y.fieldAddr rfl fo25_3 rfl nqq) ?_
      refine TL.val rfl rfl rfl (Y.load rfl sc23 rfl celD) ?_
      refine TL.val rfl rfl rfl (Y.move rfl rfl) ?_
      refine TL.val rfl rfl rfl (by first | exact Y.indexSlB rfl sl23 rfl rfl (by omega) nqq | exact Y.indexSl rfl sl23 rfl rfl (by omega) nqq) ?_
      refine TL.val rfl rfl rfl (by first | exact Y.fieldAddrJ rfl fo65_0 rfl nqq | exact Y.fieldAddr rfl fo65_0 rfl nqq) ?_
      refine TL.val rfl rfl rfl (Y.load rfl sc44 rfl cel16) ?_
      refine TL.as (v16 t) (by rfl) ?_
      refine TL.val rfl rfl rfl (Y.conv rfl Try.underlying44 Try.underlying3 rfl (cv_16_N)) ?_
      refine TL.eff rfl rfl rfl (X.call rfl Try.func30 (by kernel_rfl) rfl rfl (Fn.preE (by repeat first | (with_reducible apply Ent.refl) | (apply Ent.cons; case h => first | (with_reducible (repeat first | apply Pull.here | apply Pull.there); done) | (repeat first | apply Pull.here | apply Pull.there))) (r1.Two_fn _ (by omega) _))) ?_
      rintro _ _ ⟨g56, rfl, rfl⟩
      refine TL.val rfl rfl rfl (Y.move rfl rfl) ?_
      refine TL.val rfl rfl rfl (Y.len rfl Try.underlying27 rfl) ?_
      refine TL.eff rfl rfl rfl (X.call rfl Try.func30 (by kernel_rfl) rfl rfl (Fn.preE (by repeat first | (with_reducible apply Ent.refl) | (apply Ent.cons; case h => first | (with_reducible (repeat first | apply Pull.here | apply Pull.there); done) | (repeat first | apply Pull.here | apply Pull.there))) (r1.Two_fn _ (by omega) _))) ?_
      rintro _ _ ⟨g59, rfl, rfl⟩
      refine TL.val rfl rfl rfl (Y.move rfl rfl) ?_
      refine TL.eff rfl rfl rfl (X.lit rfl el89 rfl rfl rfl (by decide) rfl) ?_
      rintro _ _ ⟨g61, rfl, rfl⟩
      refine TL.to Ent.bsNil ?_
      refine TL.to (Ent.bsPullR (a := a1) (cap := ac) pul pul (l := bs) rfl rfl) ?_
      refine TL.to (Ent.bsPull (a := some ⟨g59, 0, none⟩) pul pul (l := be2 bs.length) rfl rfl) ?_
      refine TL.to (Ent.bsPull (a := some ⟨g56, 0, none⟩) pul pul (l := be2 t.toNat) rfl rfl) ?_
      refine TL.to (Ent.bsPull (a := ba) pul pul (l := B) rfl rfl) ?_
      refine TL.to (Ent.mkJoin pul pul rfl rfl) ?_
      refine TL.eff rfl rfl rfl (X.call rfl Try.func29 (by kernel_rfl) rfl rfl (Fn.preE (by repeat first | (with_reducible apply Ent.refl) | (apply Ent.cons; case h => first | (with_reducible (repeat first | apply Pull.here | apply Pull.there); done) | (repeat first | apply Pull.here | apply Pull.there))) (r1.Join_fn _ _ [⟨ba, bc, B⟩, ⟨some ⟨g56, 0, none⟩, 2, be2 t.toNat⟩, ⟨some ⟨g59, 0, none⟩, 2, be2 bs.length⟩, ⟨a1, ac, bs⟩] (by simp [r1.flat, be2_len]; omega) _))) ?_
      rintro _ _ ⟨a62, c62, rfl, rfl⟩
      have hfl : r1.flat [⟨ba, bc, B⟩, ⟨some ⟨g56, 0, none⟩, 2, be2 t.toNat⟩, ⟨some ⟨g59, 0, none⟩, 2, be2 bs.length⟩, ⟨a1, ac, bs⟩] = B ++ attrB (t, bs) := by simp [r1.flat, attrB]
      rw [hfl]
      refine TL.val rfl rfl rfl (Y.assign rfl rfl) ?_
      refine TL.nil ?_
      refine TQ.next ?_
      refine TC.block ?_
      have hpl0 := pad4_length (B ++ attrB (t, bs))
      have hal : (attrB (t, bs)).length = 4 + bs.length := attrB_length (t, bs)
      refine TC.loopF (ι := List UInt8 × Option Addr × Nat) [] (fun i => pad4 i.1 = pad4 (B ++ attrB (t, bs))) (fun i => [(4, some (.slice i.2.1 i.1.length i.2.2))]) (fun i => [SA.owns 5 1 (.slice i.2.1 i.1.length i.2.2) i.1.length (i.1.map v8)]) (fun i => (pad4 (B ++ attrB (t, bs))).length - i.1.length) ((B ++ attrB (t, bs), a62, c62)) (rfl) ⟨rfl, trivial⟩ (Pulls.cons pul Pulls.nil) ?_
      rintro ⟨q, qa, qc⟩ hq F' L' rfl hL'
      simp only [List.cons_append, List.nil_append] at hL'
      subst hL'
      simp only at hq ⊢
      have hpl := pad4_length q
      rw [hq] at hpl
      simp only [List.length_append] at hpl0
      refine TC.seq ?_
      refine TC.seq ?_
      refine TC.region ?_
      refine TL.val rfl rfl rfl (Y.move rfl rfl) ?_
      refine TL.val rfl rfl rfl (Y.len rfl Try.underlying27 rfl) ?_
      refine TL.val rfl rfl rfl (Y.bin rfl rfl rfl (br_remN (n := 4) (by omega))) ?_
      refine TL.val rfl rfl rfl (Y.bin rfl rfl rfl (br_neN (n := 0))) ?_
      refine TL.nil ?_
      refine TQ.next ?_
      refine TC.cond rfl (fun c3 => ?_) (fun c3 => ?_)
      · try simp only [decide_eq_true_eq, decide_eq_false_iff_not, Bool.not_eq_true', Bool.not_eq_false', Bool.and_eq_true, Bool.or_eq_true, Nat.not_lt, Nat.not_le, beq_iff_eq, bne_iff_ne] at c3
        refine TC.skip ?_
        refine TQ.next ?_
        refine TC.block ?_
        refine TC.region ?_
        refine TL.val rfl rfl rfl (Y.move rfl rfl) ?_
        refine TL.eff rfl rfl rfl (X.lit rfl el27 rfl rfl rfl (by decide) rfl) ?_
        rintro _ _ ⟨g68, rfl, rfl⟩
        refine TL.eff rfl rfl rfl (X.appendS rfl el27 rfl pul rfl (by first | exact Src.owns Try.underlying27 inn | exact Src.rds Try.underlying27 inn | exact Src.reads (by assumption) Try.underlying27 inn) (by simp only [maxLen]; omega) (by omega)) ?_
        rintro _ _ ⟨a69, c69, rfl, rfl⟩
        rw [show q.map v8 ++ [.int .u8 0] = (q ++ [(0 : UInt8)]).map v8 by simp, show q.length + 1 = (q ++ [(0 : UInt8)]).length by simp]
        refine TL.val rfl rfl rfl (Y.assign rfl rfl) ?_
        refine TL.nil ?_
        refine TQ.block_normal ?_
        refine TQ.loopF ((q ++ [0], a69, c69)) ((pad4_step q c3).trans hq) (by simp only [List.length_append, List.length_cons, List.length_nil]; omega) ⟨rfl, trivial⟩ (by (repeat first | apply Grow.refl | apply Grow.step | apply Grow.app)) ?_ ?_ ?_
        · kernel_rfl
        · rfl
        · simp only [List.cons_append, List.nil_append]
          exact ett
      · try simp only [decide_eq_true_eq, decide_eq_false_iff_not, Bool.not_eq_true', Bool.not_eq_false', Bool.and_eq_true, Bool.or_eq_true, Nat.not_lt, Nat.not_le, beq_iff_eq, bne_iff_ne] at c3
        refine TC.exit ?_
        refine TQ.then_exit ?_
        refine TQ.then_exit ?_
        refine TQ.block_exit ?_
        refine TQ.block_normal ?_
        refine TQ.next ?_
        obtain rfl : q = bodyFrom [] ((l.map pl).take (k + 1)) := by rw [body_take hp, hB, ← hq, pad4_done q (by omega)]
        refine TC.region ?_
        refine TL.val rfl rfl rfl (Y.bin rfl rfl rfl (br_addN (n := 1) (by omega))) ?_
        refine TL.val rfl rfl rfl (Y.move rfl rfl) ?_
        refine TL.nil ?_
        refine TQ.loopF ((k + 1, qa, qc)) (⟨by simp only; omega, by
  simp only [List.take_add_one, hp]
  intro x hx
  rcases List.mem_append.1 hx with h | h
  · exact h512 x h
  · simp at h; subst h; simpa using c2⟩) (by simp only; omega) ⟨rfl, rfl, trivial⟩ (by (repeat first | apply Grow.refl | apply Grow.step | apply Grow.app)) ?_ ?_ ?_
        · kernel_rfl
        · rfl
        · simp only [List.cons_append, List.nil_append]
          exact ett
  · try simp only [decide_eq_true_eq, decide_eq_false_iff_not, Bool.not_eq_true', Bool.not_eq_false', Bool.and_eq_true, Bool.or_eq_true, Nat.not_lt, Nat.not_le, beq_iff_eq, bne_iff_ne] at c1
    refine TC.exit ?_
    refine TQ.then_exit ?_
    refine TQ.then_exit ?_
    refine TQ.block_exit ?_
    refine TQ.next ?_
    refine TC.seq ?_
    obtain rfl : k = l.length := by omega
    have hall : (l.map pl).take l.length = l.map pl := by rw [← List.length_map (f := pl), List.take_length]
    rw [hall] at hB h512
    have hgood : (SM c m f ⟨a, cap, l⟩).good = true := by
      simp only [SMsg.good, Bool.and_eq_true, decide_eq_true_eq, List.all_eq_true]
      refine ⟨⟨⟨⟨⟨fun x hx => by simpa using h512 x hx, ?_⟩, ?_⟩, ?_⟩, ?_⟩, ?_⟩
      all_goals simp only [SM, List.length_map]
      all_goals omega
    refine TC.region ?_
    refine TL.val rfl rfl rfl (by first | exact Y.fieldAddrJ rfl fo25_1 rfl nqq | exact Y.fieldAddr rfl fo25_1 rfl nqq) ?_
    refine TL.val rfl rfl rfl (Y.load rfl sc3 rfl celN) ?_
    refine TL.val rfl rfl rfl (Y.bin rfl rfl rfl (br_remN (n := 16) (by omega))) ?_
    refine TL.val rfl rfl rfl (by first | exact Y.fieldAddrJ rfl fo25_0 rfl nqq | exact Y.fieldAddr rfl fo25_0 rfl nqq) ?_
    refine TL.val rfl rfl rfl (Y.load rfl sc3 rfl celN) ?_
    refine TL.val rfl rfl rfl (Y.bin rfl rfl rfl (br_remN (n := 2) (by omega))) ?_
    refine TL.val rfl rfl rfl (Y.bin rfl rfl rfl (br_mulN (n := 16) (by omega))) ?_
    refine TL.val rfl rfl rfl (Y.bin rfl rfl rfl (br_addN (by omega))) ?_
    refine TL.val rfl rfl rfl (by first | exact Y.fieldAddrJ rfl fo25_1 rfl nqq | exact Y.fieldAddr rfl fo25_1 rfl nqq) ?_
    refine TL.val rfl rfl rfl (Y.load rfl sc3 rfl celN) ?_
    refine TL.val rfl rfl rfl (Y.bin rfl rfl rfl (br_quoN (n := 16) (by omega) (by omega))) ?_
    refine TL.val rfl rfl rfl (Y.bin rfl rfl rfl (br_remN (n := 8) (by omega))) ?_
    refine TL.val rfl rfl rfl (Y.bin rfl rfl rfl (br_mulN (n := 32) (by omega))) ?_
    refine TL.val rfl rfl rfl (Y.bin rfl rfl rfl (br_addN (by omega))) ?_
    refine TL.val rfl rfl rfl (by first | exact Y.fieldAddrJ rfl fo25_0 rfl nqq | exact Y.fieldAddr rfl fo25_0 rfl nqq) ?_
    refine TL.val rfl rfl rfl (Y.load rfl sc3 rfl celN) ?_
    refine TL.val rfl rfl rfl (Y.bin rfl rfl rfl (br_quoN (n := 2) (by omega) (by omega))) ?_
    refine TL.val rfl rfl rfl (Y.bin rfl rfl rfl (br_mulN (n := 256) (by omega))) ?_
    refine TL.val rfl rfl rfl (Y.bin rfl rfl rfl (br_addN (by omega))) ?_
    refine TL.val rfl rfl rfl (by first | exact Y.fieldAddrJ rfl fo25_1 rfl nqq | exact Y.fieldAddr rfl fo25_1 rfl nqq) ?_
    refine TL.val rfl rfl rfl (Y.load rfl sc3 rfl celN) ?_
    refine TL.val rfl rfl rfl (Y.bin rfl rfl rfl (br_quoN (n := 128) (by omega) (by omega))) ?_
    refine TL.val rfl rfl rfl (Y.bin rfl rfl rfl (br_mulN (n := 512) (by omega))) ?_
    refine TL.val rfl rfl rfl (Y.bin rfl rfl rfl (br_addN (by omega))) ?_
    refine TL.as (vN (kindOf c m)) (by rfl) ?_
    refine TL.val rfl rfl rfl (Y.assign rfl rfl) ?_
    refine TL.nil ?_
    refine TQ.next ?_
    refine TC.seq ?_
    refine TC.draws 10 _ (by kernel_rfl) (by kernel_rfl) (fun _ h => h) ?_
    refine TA.takeP 0 rfl rfl rfl rfl (by kernel_rfl) (by kernel_rfl) (by kernel_rfl) rfl (fun _ _ _ h => h) (Y.move rfl rfl) ?_
    refine TA.takeP 2 rfl rfl rfl rfl (by kernel_rfl) (by kernel_rfl) (by kernel_rfl) rfl (fun _ _ _ h => h) (Y.move rfl rfl) ?_
    refine TA.takeP 3 rfl rfl rfl rfl (by kernel_rfl) (by kernel_rfl) (by kernel_rfl) rfl (fun _ _ _ h => h) (Y.len rfl Try.underlying27 rfl) ?_
    refine TA.takeP 6 rfl rfl rfl rfl (by kernel_rfl) (by kernel_rfl) (by kernel_rfl) rfl (fun _ _ _ h => h) (by first | exact Y.fieldAddrJ rfl fo25_2 rfl nqq | exact Y.fieldAddr rfl fo25_2 rfl nqq) ?_
    refine TA.takeP 7 rfl rfl rfl rfl (by kernel_rfl) (by kernel_rfl) (by kernel_rfl) rfl (fun _ _ _ h => h) (Y.sliceArr rfl Try.underlying22 sz5 rfl) ?_
    refine TA.takeP 8 rfl rfl rfl rfl (by kernel_rfl) (by kernel_rfl) (by kernel_rfl) rfl (fun _ _ _ h => h) (Y.move rfl rfl) ?_
    refine TA.one 1 (by kernel_rfl) rfl rfl rfl rfl (X.call rfl Try.func30 (by kernel_rfl) rfl rfl (Fn.preE (by repeat first | (with_reducible apply Ent.refl) | (apply Ent.cons; case h => first | (with_reducible (repeat first | apply Pull.here | apply Pull.there); done) | (repeat first | apply Pull.here | apply Pull.there))) (r1.Two_fn _ (by omega) _))) ?_
    rintro _ _ ⟨g96, rfl, rfl⟩
    refine ⟨(Or.inr (fun w h A hA => h A (by with_reducible (first | assumption | (repeat first | exact In.there hA | apply In.there))))), ?_⟩
    refine TA.one 4 (by kernel_rfl) rfl rfl rfl rfl (X.call rfl Try.func30 (by kernel_rfl) rfl rfl (Fn.preE (by repeat first | (with_reducible apply Ent.refl) | (apply Ent.cons; case h => first | (with_reducible (repeat first | apply Pull.here | apply Pull.there); done) | (repeat first | apply Pull.here | apply Pull.there))) (r1.Two_fn _ (by omega) _))) ?_
    rintro _ _ ⟨g99, rfl, rfl⟩
    refine ⟨(Or.inr (fun w h A hA => h A (by with_reducible (first | assumption | (repeat first | exact In.there hA | apply In.there))))), ?_⟩
    refine TA.one 5 (by kernel_rfl) rfl rfl rfl rfl (X.call rfl Try.func31 (by kernel_rfl) rfl rfl (Fn.preE (by repeat first | (with_reducible apply Ent.refl) | (apply Ent.cons; case h => first | (with_reducible (repeat first | apply Pull.here | apply Pull.there); done) | (repeat first | apply Pull.here | apply Pull.there))) (r1.Four_fn 554869826 _))) ?_
    rintro _ _ ⟨g100, rfl, rfl⟩
    refine ⟨(Or.inr (fun w h A hA => h A (by with_reducible (first | assumption | (repeat first | exact In.there hA | apply In.there))))), ?_⟩
    refine TA.one 9 (by kernel_rfl) rfl rfl rfl rfl (X.lit rfl el89 rfl rfl rfl (by decide) rfl) ?_
    rintro _ _ ⟨g104, rfl, rfl⟩
    refine ⟨(Or.inr (fun w h A hA => h A (by with_reducible (first | assumption | (repeat first | exact In.there hA | apply In.there))))), ?_⟩
    refine TA.to Ent.bsNil ?_
    refine TA.to (Ent.bsPull (a := ba) pul pul (l := B) rfl rfl) ?_
    refine TA.to (Ent.rdOfBlk (b := b1) pul readsId rfl) ?_
    refine TA.to (Ent.bsPullR (a := some ⟨b1, 2, none⟩) pul pul (l := idL f) rfl rfl) ?_
    refine TA.to (Ent.bsPull (a := some ⟨g100, 0, none⟩) pul pul (l := magicB) rfl rfl) ?_
    refine TA.to (Ent.bsPull (a := some ⟨g99, 0, none⟩) pul pul (l := be2 B.length) rfl rfl) ?_
    refine TA.to (Ent.bsPull (a := some ⟨g96, 0, none⟩) pul pul (l := be2 (kindOf c m)) rfl rfl) ?_
    refine TA.to (Ent.mkJoin pul pul rfl rfl) ?_
    have hwh : r1.flat [⟨some ⟨g96, 0, none⟩, 2, be2 (kindOf c m)⟩, ⟨some ⟨g99, 0, none⟩, 2, be2 B.length⟩, ⟨some ⟨g100, 0, none⟩, 4, magicB⟩, ⟨some ⟨b1, 2, none⟩, 12, idL f⟩, ⟨ba, bc, B⟩] = (SM c m f ⟨a, cap, l⟩).whole := by
      simp [r1.flat, SMsg.whole, SM, hB]
    have hwl : (SM c m f ⟨a, cap, l⟩).whole.length = 20 + B.length := by rw [← hwh]; simp [r1.flat, be2, be4, magicB, idL]; omega
    refine TA.one 10 (by kernel_rfl) rfl rfl rfl rfl (X.call rfl Try.func29 (by kernel_rfl) rfl rfl (Fn.preE (by repeat first | (with_reducible apply Ent.refl) | (apply Ent.cons; case h => first | (with_reducible (repeat first | apply Pull.here | apply Pull.there); done) | (repeat first | apply Pull.here | apply Pull.there))) (r1.Join_fn _ _ [⟨some ⟨g96, 0, none⟩, 2, be2 (kindOf c m)⟩, ⟨some ⟨g99, 0, none⟩, 2, be2 B.length⟩, ⟨some ⟨g100, 0, none⟩, 4, magicB⟩, ⟨some ⟨b1, 2, none⟩, 12, idL f⟩, ⟨ba, bc, B⟩] (by rw [hwh, hwl]; omega) _))) ?_
    rintro _ _ ⟨a105, c105, rfl, rfl⟩
    rw [hwh]
    refine ⟨(Or.inl (by kernel_rfl)), ?_⟩
    refine TA.takeP 11 rfl rfl rfl rfl (by kernel_rfl) (by kernel_rfl) (by kernel_rfl) rfl (fun _ _ _ h => h) (Y.assign rfl rfl) ?_
    refine TA.done (by kernel_rfl) ?_
    refine TQ.next ?_
    refine TC.seq ?_
    refine TC.seq ?_
    refine TC.region ?_
    refine TL.val rfl rfl rfl (Y.move rfl rfl) ?_
    refine TL.val rfl rfl rfl (Y.len rfl Try.underlying27 rfl) ?_
    refine TL.val rfl rfl rfl (Y.bin rfl rfl rfl (br_gtN (n := 1500))) ?_
    refine TL.nil ?_
    refine TQ.next ?_
    refine TC.cond rfl (fun c4 => ?_) (fun c4 => ?_)
    · try simp only [decide_eq_true_eq, decide_eq_false_iff_not, Bool.not_eq_true', Bool.not_eq_false', Bool.and_eq_true, Bool.or_eq_true, Nat.not_lt, Nat.not_le, beq_iff_eq, bne_iff_ne] at c4
      have hb : (SM c m f ⟨a, cap, l⟩).build = none := by simp [SMsg.build]; intro _; omega
      rw [hb]
      refine TC.to (Ent.nilOwn 5 1) ?_
      refine TC.seq ?_
      refine TC.region ?_
      refine TL.val rfl rfl rfl (Y.assign rfl rfl) ?_
      refine TL.val rfl rfl rfl (Y.assign rfl rfl) ?_
      refine TL.nil ?_
      refine TQ.next ?_
      refine TC.ret ?_
      refine TQ.then_ret ?_
      refine TQ.retE (res2 rfl rfl rfl) (⟨_, _, rfl, rfl⟩) ?_
      exact ett
    · try simp only [decide_eq_true_eq, decide_eq_false_iff_not, Bool.not_eq_true', Bool.not_eq_false', Bool.and_eq_true, Bool.or_eq_true, Nat.not_lt, Nat.not_le, beq_iff_eq, bne_iff_ne] at c4
      have hb : (SM c m f ⟨a, cap, l⟩).build = some (SM c m f ⟨a, cap, l⟩).whole := by rw [SMsg.build, if_pos ⟨hgood, by omega⟩]
      rw [hb]
      refine TC.skip ?_
      refine TQ.next ?_
      refine TC.seq ?_
      refine TC.region ?_
      refine TL.val rfl rfl rfl (Y.move rfl rfl) ?_
      refine TL.val rfl rfl rfl (Y.assign rfl rfl) ?_
      refine TL.val rfl rfl rfl (Y.assign rfl rfl) ?_
      refine TL.nil ?_
      refine TQ.next ?_
      refine TC.ret ?_
      refine TQ.retE (res2 rfl rfl rfl) (⟨_, _, rfl, rfl⟩) ?_
      exact ett
theorem refBuild_fn (c m : Int) (f : Nat → UInt8) (a : Option Addr) (cap : Nat) (l : List At) (L : List SA) :
    Fn Try.prog 10 [.agg (msgC c m f (.slice a l.length cap))] (SA.dat (⟨a, cap, l⟩ : Sl At) :: L)
      (fun v L' => ∃ b c', v = .tuple #[.slice b (ob (SM c m f ⟨a, cap, l⟩).build).length c', vN (oe (SM c m f ⟨a, cap, l⟩).build)] ∧
        L' = SA.owns 5 1 (.slice b (ob (SM c m f ⟨a, cap, l⟩).build).length c') (ob (SM c m f ⟨a, cap, l⟩).build).length ((ob (SM c m f ⟨a, cap, l⟩).build).map v8) :: SA.dat (⟨a, cap, l⟩ : Sl At) :: L) := by
  by_cases hbad : c < 0 ∨ 3 < c ∨ m < 0 ∨ 4095 < m ∨ 16 < l.length
  · have hb : (SM c m f ⟨a, cap, l⟩).build = none := by
      simp [SMsg.build, not_good (SM c m f ⟨a, cap, l⟩) (by rw [show (SM c m f ⟨a, cap, l⟩).attrs = l.map pl from rfl, List.length_map]; exact hbad)]
    rw [hb]
    exact (refBuild_bad c m f a cap l hbad L).mono fun v L' ⟨h1, h2⟩ => ⟨_, Ent.nilOwn 5 1, none, 0, h1, by rw [h2]; rfl⟩
  · obtain ⟨cn, rfl⟩ : ∃ n : Nat, c = n := ⟨c.toNat, by omega⟩
    obtain ⟨mn, rfl⟩ : ∃ n : Nat, m = n := ⟨m.toNat, by omega⟩
    exact refBuild_good cn mn f a cap l (by omega) (by omega) (by omega) L
end stun
end Go.Proofs.Ytggammbhmoippaa
