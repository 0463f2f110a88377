/- stun.Build, walked. -/
import Derived.Test.YtggammbhmoippaaStunD
import Derived.Test.YtggammbhmoippaaHAuto
namespace Go.Proofs.Ytggammbhmoippaa
set_option linter.unusedVariables false
set_option linter.unusedSimpArgs false
open Go.RowKit
namespace stun
open wr (pad4 pad4_length pad4_mod pad4_head pad4_step pad4_done be16 be32)
open r1 (be2 be4 be2_len be4_len)
namespace FxStunB
set_option maxRecDepth 100000
theorem ag34 : Program.aggN Try.prog 34 = some 15 := by kernel_rfl
theorem ag73 : Program.aggN Try.prog 73 = some 2 := by kernel_rfl
theorem fo34_0 : Program.fieldOff Try.prog 34 0 = some 0 := by kernel_rfl
theorem fo34_1 : Program.fieldOff Try.prog 34 1 = some 1 := by kernel_rfl
theorem fo34_2 : Program.fieldOff Try.prog 34 2 = some 2 := by kernel_rfl
theorem fo34_3 : Program.fieldOff Try.prog 34 3 = some 14 := by kernel_rfl
theorem fo73_0 : Program.fieldOff Try.prog 73 0 = some 0 := by kernel_rfl
theorem fo73_1 : Program.fieldOff Try.prog 73 1 = some 1 := by kernel_rfl
theorem sc27 : Program.isSc Try.prog 27 = true := by kernel_rfl
theorem sc3 : Program.isSc Try.prog 3 = true := by kernel_rfl
theorem sc32 : Program.isSc Try.prog 32 = true := by kernel_rfl
theorem sc44 : Program.isSc Try.prog 44 = true := by kernel_rfl
theorem sc69 : Program.isSc Try.prog 69 = true := by kernel_rfl
theorem sl27 : Program.slI Try.prog 27 = some 1 := by kernel_rfl
theorem sl32 : Program.slI Try.prog 32 = some 2 := by kernel_rfl
theorem sz5 : (Try.prog.info? 5).map (·.size) = some 1 := by kernel_rfl
theorem sz73 : (Try.prog.info? 73).map (·.size) = some 2 := by kernel_rfl
theorem zc69 : Program.zeroC Try.prog 69 = some #[.slice none 0 0] := by kernel_rfl
theorem zc73 : Program.zeroC Try.prog 73 = some #[.int .u16 0, .slice none 0 0] := by kernel_rfl
end FxStunB
open FxStunB
theorem all_take_succ {α : Type} (p : α → Bool) (l : List α) (j : Nat) (x : α) (h : l[j]? = some x) : (l.take (j + 1)).all p = ((l.take j).all p && p x) := by
  rw [List.take_add_one, h]; simp [Bool.and_comm]
theorem at_pl {l : List At} {k : Nat} {t : UInt16} {a : Option Addr} {c : Nat} {bs : List UInt8} (hx : l[k]? = some (t, ⟨a, c, bs⟩)) : (l.map pl)[k]? = some (t, bs) := by rw [List.getElem?_map, hx]; rfl
theorem good_parts {m : SMsg} (h : m.good = true) : (∀ a ∈ m.attrs, a.2.length ≤ 512) ∧ 0 ≤ m.cls ∧ m.cls ≤ 3 ∧ 0 ≤ m.mth ∧ m.mth ≤ 4095 ∧ m.attrs.length ≤ 16 := by
  simp only [SMsg.good, Bool.and_eq_true, decide_eq_true_eq, List.all_eq_true] at h
  exact ⟨fun a ha => by simpa using h.1.1.1.1.1 a ha, h.1.1.1.1.2, h.1.1.1.2, h.1.1.2, h.1.2, h.2⟩
theorem not_good (m : SMsg) (h : m.cls < 0 ∨ 3 < m.cls ∨ m.mth < 0 ∨ 4095 < m.mth ∨ 16 < m.attrs.length) : m.good = false := by
  cases hg : m.good with
  | false => rfl
  | true => have := good_parts hg; omega
--REG (rostrum/stun.Message).good : _ _ ⟨rfl, rfl⟩ => (stun.good_fn _ _ _ _ _ _ _)
theorem good_fn (c m : Int) (f : Nat → UInt8) (a : Option Addr) (cap : Nat) (l : List At) (L : List SA) :
    Fn Try.prog 32 [.agg (msgC c m f (.slice a l.length cap))] (SA.dat (⟨a, cap, l⟩ : Sl At) :: L) (fun v L' => v = .bool (SM c m f ⟨a, cap, l⟩).good ∧ L' = SA.dat (⟨a, cap, l⟩ : Sl At) :: L) := by
  refine Fn.of (N := 41) Try.func32 rfl rfl ?_
  intro Xh
  refine TC.know (dat_cap (a := a) inn) ?_
  rintro ⟨hc1, hc2, -⟩
  refine TC.seq ?_
  refine TC.region ?_
  refine TL.eff rfl rfl rfl (X.boxA rfl rfl) ?_
  rintro _ _ ⟨b1, rfl, rfl⟩
  refine TL.val rfl rfl rfl (Y.assign rfl rfl) ?_
  refine TL.nil ?_
  refine TQ.next ?_
  refine TC.seq ?_
  refine TC.seq ?_
  refine TC.region ?_
  refine TL.val rfl rfl rfl (by first | exact Y.fieldAddrJ rfl fo34_3 rfl nqq | exact Y.fieldAddr rfl fo34_3 rfl nqq) ?_
  refine TL.val rfl rfl rfl (Y.load rfl sc32 rfl celD) ?_
  refine TL.val rfl rfl rfl (Y.len rfl Try.underlying32 rfl) ?_
  refine TL.val rfl rfl rfl (Y.move rfl rfl) ?_
  refine TL.nil ?_
  refine TQ.next ?_
  refine TC.block ?_
  refine TC.loopF (ι := Nat) [2] (fun k => k ≤ l.length ∧ ((l.map pl).take k).all (fun a => decide (a.2.length ≤ 512)) = true) (fun k => [(8, some (vN k))]) (fun k => []) (fun k => l.length - k) (0) (⟨by omega, by simp⟩) ⟨rfl, trivial⟩ Pulls.nil ?_
  rintro k ⟨hk, hall⟩ F' L' rfl hL'
  simp only [List.cons_append, List.nil_append] at hL'
  subst hL'
  refine TC.seq ?_
  refine TC.region ?_
  refine TL.val rfl rfl rfl (Y.bin rfl rfl rfl (br_ltN)) ?_
  refine TL.nil ?_
  refine TQ.next ?_
  refine TC.seq ?_
  refine TC.cond rfl (fun c0 => ?_) (fun c0 => ?_)
  · try simp only [decide_eq_true_eq, decide_eq_false_iff_not, Bool.not_eq_true', Bool.not_eq_false', Bool.and_eq_true, Bool.or_eq_true, Nat.not_lt, Nat.not_le, beq_iff_eq, bne_iff_ne] at c0
    refine TC.skip ?_
    refine TQ.next ?_
    refine TC.seq ?_
    refine TC.block ?_
    refine TC.seq ?_
    obtain ⟨⟨t, a1, ac, bs⟩, hx, hxm⟩ := getS (l := l) (i := k) (by omega)
    refine TC.know (dat_some (a := a) inn (by omega)) ?_
    rintro ⟨g, off, rfl⟩
    have hp := at_pl hx
    refine TC.region ?_
    refine TL.val rfl rfl rfl (by first | exact Y.indexSlB rfl sl32 rfl rfl (by omega) nqq | exact Y.indexSl rfl sl32 rfl rfl (by omega) nqq) ?_
    refine TL.val rfl rfl rfl (Y.loadAgg rfl ag73 rfl (by first | exact Cels.datAt inn (by assumption) | exact Cels.full inn) (by first | rfl | ((try simp only [List.length_map, List.length_set, List.length_replicate]); omega))) ?_
    refine TL.as (.agg #[v16 t, .slice a1 bs.length ac]) (by rfl) ?_
    refine TL.eff rfl rfl rfl (X.alloc rfl zc73) ?_
    rintro _ _ ⟨b4, rfl, rfl⟩
    refine TL.eff0 rfl rfl (by first | exact X.storeAll rfl sz73 (by rfl) rfl rfl (allOne (by rfl)) pul (by rfl) | exact X.storeAll rfl sz73 szz rfl rfl (by simp [Value.oneCell']) pul szz | exact X.storeAgg rfl sz73 szz rfl rfl (by simp [Value.oneCell']) pul szz (writeM (by ((try simp only [List.length_set, List.length_map, List.length_append, List.length_replicate]); omega)))) ?_
    rintro _ _ rfl
    refine TL.nil ?_
    refine TQ.next ?_
    refine TC.seq ?_
    refine TC.region ?_
    refine TL.val rfl rfl rfl (by first | exact Y.fieldAddrJ rfl fo73_1 rfl nqq | exact Y.fieldAddr rfl fo73_1 rfl nqq) ?_
    refine TL.val rfl rfl rfl (Y.load rfl sc27 rfl celD) ?_
    refine TL.val rfl rfl rfl (Y.len rfl Try.underlying27 rfl) ?_
    refine TL.val rfl rfl rfl (Y.bin rfl rfl rfl (br_gtN (n := 512))) ?_
    refine TL.nil ?_
    refine TQ.next ?_
    refine TC.cond rfl (fun c1 => ?_) (fun c1 => ?_)
    · try simp only [decide_eq_true_eq, decide_eq_false_iff_not, Bool.not_eq_true', Bool.not_eq_false', Bool.and_eq_true, Bool.or_eq_true, Nat.not_lt, Nat.not_le, beq_iff_eq, bne_iff_ne] at c1
      have hbad : (SM c m f ⟨some ⟨g, off, none⟩, cap, l⟩).good = false := by
        have : (l.map pl).all (fun a => decide (a.2.length ≤ 512)) = false := by
          rw [List.all_eq_false]
          exact ⟨_, List.mem_of_getElem? hp, by simpa using c1⟩
        simp [SMsg.good, SM, this]
      refine TC.seq ?_
      refine TC.region ?_
      refine TL.val rfl rfl rfl (Y.assign rfl rfl) ?_
      refine TL.nil ?_
      refine TQ.next ?_
      refine TC.ret ?_
      refine TQ.block_ret ?_
      refine TQ.then_ret ?_
      refine TQ.then_ret ?_
      refine TQ.block_ret ?_
      refine TQ.then_ret ?_
      refine TQ.retE (res1 rfl rfl) (⟨by first | rw [hbad] | (simp_all [SMsg.good, SM]; done) | (rw [not_good (SM c m f _) (by simp only [SM, List.length_map]; omega)]), rfl⟩) ?_
      exact ett
    · try simp only [decide_eq_true_eq, decide_eq_false_iff_not, Bool.not_eq_true', Bool.not_eq_false', Bool.and_eq_true, Bool.or_eq_true, Nat.not_lt, Nat.not_le, beq_iff_eq, bne_iff_ne] at c1
      refine TC.skip ?_
      refine TQ.block_normal ?_
      refine TQ.next ?_
      refine TC.region ?_
      refine TL.val rfl rfl rfl (Y.bin rfl rfl rfl (br_addN (n := 1) (by omega))) ?_
      refine TL.val rfl rfl rfl (Y.move rfl rfl) ?_
      refine TL.nil ?_
      refine TQ.loopF (k + 1) (⟨by omega, by rw [all_take_succ _ _ _ _ hp, hall]; simpa using c1⟩) (by omega) ⟨rfl, trivial⟩ (by (repeat first | apply Grow.refl | apply Grow.step | apply Grow.app)) ?_ ?_ ?_
      · kernel_rfl
      · rfl
      · simp only [List.cons_append, List.nil_append]
        exact ett
  · try simp only [decide_eq_true_eq, decide_eq_false_iff_not, Bool.not_eq_true', Bool.not_eq_false', Bool.and_eq_true, Bool.or_eq_true, Nat.not_lt, Nat.not_le, beq_iff_eq, bne_iff_ne] at c0
    refine TC.exit ?_
    refine TQ.then_exit ?_
    refine TQ.then_exit ?_
    refine TQ.block_exit ?_
    refine TQ.next ?_
    refine TC.seq ?_
    obtain rfl : k = l.length := by omega
    have hall' : (l.map pl).all (fun a => decide (a.2.length ≤ 512)) = true := by
      rw [← List.length_map (f := pl), List.take_length] at hall; exact hall
    refine TC.region ?_
    refine TL.val rfl rfl rfl (by first | exact Y.fieldAddrJ rfl fo34_0 rfl nqq | exact Y.fieldAddr rfl fo34_0 rfl nqq) ?_
    refine TL.val rfl rfl rfl (Y.load rfl sc3 rfl celN) ?_
    refine TL.val rfl rfl rfl (Y.bin rfl rfl rfl (br_geI (n := 0))) ?_
    refine TL.val rfl rfl rfl (Y.move rfl rfl) ?_
    refine TL.case (fun g7_3 => ?_) (fun g7_3 => ?_)
    · try simp only [decide_eq_true_eq, decide_eq_false_iff_not, Bool.not_eq_true', Bool.not_eq_false', Nat.not_lt, Nat.not_le, beq_iff_eq, bne_iff_ne] at g7_3
      refine TL.valG rfl rfl rfl (by first | exact Y.fieldAddrJ rfl fo34_0 rfl nqq | exact Y.fieldAddr rfl fo34_0 rfl nqq) ?_
      refine TL.valG rfl rfl rfl (Y.load rfl sc3 rfl celN) ?_
      refine TL.valG rfl rfl rfl (Y.bin rfl rfl rfl (br_leI (n := 3))) ?_
      refine TL.val rfl rfl rfl (Y.pick_t rfl rfl rfl) ?_
      refine TL.val rfl rfl rfl (Y.move rfl rfl) ?_
      refine TL.case (fun g7_8 => ?_) (fun g7_8 => ?_)
      · try simp only [decide_eq_true_eq, decide_eq_false_iff_not, Bool.not_eq_true', Bool.not_eq_false', Nat.not_lt, Nat.not_le, beq_iff_eq, bne_iff_ne] at g7_8
        refine TL.valG rfl rfl rfl (by first | exact Y.fieldAddrJ rfl fo34_1 rfl nqq | exact Y.fieldAddr rfl fo34_1 rfl nqq) ?_
        refine TL.valG rfl rfl rfl (Y.load rfl sc3 rfl celN) ?_
        refine TL.valG rfl rfl rfl (Y.bin rfl rfl rfl (br_geI (n := 0))) ?_
        refine TL.val rfl rfl rfl (Y.pick_t rfl rfl rfl) ?_
        refine TL.val rfl rfl rfl (Y.move rfl rfl) ?_
        refine TL.case (fun g7_13 => ?_) (fun g7_13 => ?_)
        · try simp only [decide_eq_true_eq, decide_eq_false_iff_not, Bool.not_eq_true', Bool.not_eq_false', Nat.not_lt, Nat.not_le, beq_iff_eq, bne_iff_ne] at g7_13
          refine TL.valG rfl rfl rfl (by first | exact Y.fieldAddrJ rfl fo34_1 rfl nqq | exact Y.fieldAddr rfl fo34_1 rfl nqq) ?_
          refine TL.valG rfl rfl rfl (Y.load rfl sc3 rfl celN) ?_
          refine TL.valG rfl rfl rfl (Y.bin rfl rfl rfl (br_leI (n := 4095))) ?_
          refine TL.val rfl rfl rfl (Y.pick_t rfl rfl rfl) ?_
          refine TL.val rfl rfl rfl (Y.move rfl rfl) ?_
          refine TL.case (fun g7_18 => ?_) (fun g7_18 => ?_)
          · try simp only [decide_eq_true_eq, decide_eq_false_iff_not, Bool.not_eq_true', Bool.not_eq_false', Nat.not_lt, Nat.not_le, beq_iff_eq, bne_iff_ne] at g7_18
            refine TL.valG rfl rfl rfl (by first | exact Y.fieldAddrJ rfl fo34_3 rfl nqq | exact Y.fieldAddr rfl fo34_3 rfl nqq) ?_
            refine TL.valG rfl rfl rfl (Y.load rfl sc32 rfl celD) ?_
            refine TL.valG rfl rfl rfl (Y.len rfl Try.underlying32 rfl) ?_
            refine TL.valG rfl rfl rfl (Y.bin rfl rfl rfl (br_leN (n := 16))) ?_
            refine TL.val rfl rfl rfl (Y.pick_t rfl rfl rfl) ?_
            refine TL.val rfl rfl rfl (Y.assign rfl rfl) ?_
            refine TL.nil ?_
            refine TQ.next ?_
            refine TC.ret ?_
            refine TQ.retE (res1 rfl rfl) (⟨by first | rw [hbad] | (simp_all [SMsg.good, SM]; done) | (rw [not_good (SM c m f _) (by simp only [SM, List.length_map]; omega)]), rfl⟩) ?_
            exact ett
          · try simp only [decide_eq_true_eq, decide_eq_false_iff_not, Bool.not_eq_true', Bool.not_eq_false', Nat.not_lt, Nat.not_le, beq_iff_eq, bne_iff_ne] at g7_18
            refine TL.not rfl rfl rfl ?_
            refine TL.not rfl rfl rfl ?_
            refine TL.not rfl rfl rfl ?_
            refine TL.not rfl rfl rfl ?_
            refine TL.val rfl rfl rfl (Y.pick_f rfl rfl rfl) ?_
            refine TL.val rfl rfl rfl (Y.assign rfl rfl) ?_
            refine TL.nil ?_
            refine TQ.next ?_
            refine TC.ret ?_
            refine TQ.retE (res1 rfl rfl) (⟨by first | rw [hbad] | (simp_all [SMsg.good, SM]; done) | (rw [not_good (SM c m f _) (by simp only [SM, List.length_map]; omega)]), rfl⟩) ?_
            exact ett
        · try simp only [decide_eq_true_eq, decide_eq_false_iff_not, Bool.not_eq_true', Bool.not_eq_false', Nat.not_lt, Nat.not_le, beq_iff_eq, bne_iff_ne] at g7_13
          refine TL.not rfl rfl rfl ?_
          refine TL.not rfl rfl rfl ?_
          refine TL.not rfl rfl rfl ?_
          refine TL.val rfl rfl rfl (Y.pick_f rfl rfl rfl) ?_
          refine TL.val rfl rfl rfl (Y.move rfl rfl) ?_
          refine TL.not rfl rfl rfl ?_
          refine TL.not rfl rfl rfl ?_
          refine TL.not rfl rfl rfl ?_
          refine TL.not rfl rfl rfl ?_
          refine TL.val rfl rfl rfl (Y.pick_f rfl rfl rfl) ?_
          refine TL.val rfl rfl rfl (Y.assign rfl rfl) ?_
          refine TL.nil ?_
          refine TQ.next ?_
          refine TC.ret ?_
          refine TQ.retE (res1 rfl rfl) (⟨by first | rw [hbad] | (simp_all [SMsg.good, SM]; done) | (rw [not_good (SM c m f _) (by simp only [SM, List.length_map]; omega)]), rfl⟩) ?_
          exact ett
      · try simp only [decide_eq_true_eq, decide_eq_false_iff_not, Bool.not_eq_true', Bool.not_eq_false', Nat.not_lt, Nat.not_le, beq_iff_eq, bne_iff_ne] at g7_8
        refine TL.not rfl rfl rfl ?_
        refine TL.not rfl rfl rfl ?_
        refine TL.not rfl rfl rfl ?_
        refine TL.val rfl rfl rfl (Y.pick_f rfl rfl rfl) ?_
        refine TL.val rfl rfl rfl (Y.move rfl rfl) ?_
        refine TL.not rfl rfl rfl ?_
        refine TL.not rfl rfl rfl ?_
        refine TL.not rfl rfl rfl ?_
        refine TL.val rfl rfl rfl (Y.pick_f rfl rfl rfl) ?_
        refine TL.val rfl rfl rfl (Y.move rfl rfl) ?_
        refine TL.not rfl rfl rfl ?_
        refine TL.not rfl rfl rfl ?_
        refine TL.not rfl rfl rfl ?_
        refine TL.not rfl rfl rfl ?_
        refine TL.val rfl rfl rfl (Y.pick_f rfl rfl rfl) ?_
        refine TL.val rfl rfl rfl (Y.assign rfl rfl) ?_
        refine TL.nil ?_
        refine TQ.next ?_
        refine TC.ret ?_
        refine TQ.retE (res1 rfl rfl) (⟨by first | rw [hbad] | (simp_all [SMsg.good, SM]; done) | (rw [not_good (SM c m f _) (by simp only [SM, List.length_map]; omega)]), rfl⟩) ?_
        exact ett
    · try simp only [decide_eq_true_eq, decide_eq_false_iff_not, Bool.not_eq_true', Bool.not_eq_false', Nat.not_lt, Nat.not_le, beq_iff_eq, bne_iff_ne] at g7_3
      refine TL.not rfl rfl rfl ?_
      refine TL.not rfl rfl rfl ?_
      refine TL.not rfl rfl rfl ?_
      refine TL.val rfl rfl rfl (Y.pick_f rfl rfl rfl) ?_
      refine TL.val rfl rfl rfl (Y.move rfl rfl) ?_
      refine TL.not rfl rfl rfl ?_
      refine TL.not rfl rfl rfl ?_
      refine TL.not rfl rfl rfl ?_
      refine TL.val rfl rfl rfl (Y.pick_f rfl rfl rfl) ?_
      refine TL.val rfl rfl rfl (Y.move rfl rfl) ?_
      refine TL.not rfl rfl rfl ?_
      refine TL.not rfl rfl rfl ?_
      refine TL.not rfl rfl rfl ?_
      refine TL.val rfl rfl rfl (Y.pick_f rfl rfl rfl) ?_
      refine TL.val rfl rfl rfl (Y.move rfl rfl) ?_
      refine TL.not rfl rfl rfl ?_
      refine TL.not rfl rfl rfl ?_
      refine TL.not rfl rfl rfl ?_
      refine TL.not rfl rfl rfl ?_
      refine TL.val rfl rfl rfl (Y.pick_f rfl rfl rfl) ?_
      refine TL.val rfl rfl rfl (Y.assign rfl rfl) ?_
      refine TL.nil ?_
      refine TQ.next ?_
      refine TC.ret ?_
      refine TQ.retE (res1 rfl rfl) (⟨by first | rw [hbad] | (simp_all [SMsg.good, SM]; done) | (rw [not_good (SM c m f _) (by simp only [SM, List.length_map]; omega)]), rfl⟩) ?_
      exact ett
theorem size_fn (g off n cap k : Nat) (l : List UInt8) (hl : l.length = n) (hn : 4 ≤ n) (h1 : 20 ≤ k) (h2 : k < 9223372036854775808) (L : List SA) :
    Fn Try.prog 37 [.slice (some ⟨g, off, none⟩) n cap, vN k] (SA.owns 5 1 (.slice (some ⟨g, off, none⟩) n cap) n (l.map v8) :: L)
      (fun v L' => v = .tuple #[] ∧ L' = SA.owns 5 1 (.slice (some ⟨g, off, none⟩) n cap) n ((setLen l k).map v8) :: L) := by
  refine Fn.of (N := 15) Try.func37 rfl rfl ?_
  intro Xh
  refine TC.region ?_
  refine TL.val rfl rfl rfl (Y.move rfl rfl) ?_
  refine TL.val rfl rfl rfl (Y.move rfl rfl) ?_
  refine TL.val rfl rfl rfl (Y.move rfl rfl) ?_
  refine TL.val rfl rfl rfl (Y.bin rfl rfl rfl (br_subN (n := 20) (by omega) (by omega))) ?_
  refine TL.val rfl rfl rfl (Y.bin rfl rfl rfl (br_shrN (n := 8) (c := 256) rfl (by omega))) ?_
  refine TL.val rfl rfl rfl (Y.conv rfl Try.underlying3 Try.underlying5 rfl (cv_N_8)) ?_
  refine TL.val rfl rfl rfl (Y.move rfl rfl) ?_
  refine TL.val rfl rfl rfl (Y.bin rfl rfl rfl (br_subN (n := 20) (by omega) (by omega))) ?_
  refine TL.val rfl rfl rfl (Y.conv rfl Try.underlying3 Try.underlying5 rfl (cv_N_8)) ?_
  refine TL.val rfl rfl rfl (by first | exact Y.indexSlB (j := 2) rfl sl27 rfl rfl (by omega) nqq | exact Y.indexSl (j := 2) rfl sl27 rfl rfl (by omega) nqq) ?_
  refine TL.eff0 rfl rfl (by first | exact X.store rfl sz5 rfl rfl rfl pul lnn (by first | exact setM | rfl) | exact X.storeOwn rfl sz5 rfl (Nat.zero_add _).symm rfl rfl pul lnn (by first | exact setML | rfl) | exact X.storeOwn rfl sz5 rfl rfl rfl rfl pul lnn (by first | exact setML | rfl)) ?_
  rintro _ _ rfl
  refine TL.val rfl rfl rfl (by first | exact Y.indexSlB (j := 3) rfl sl27 rfl rfl (by omega) nqq | exact Y.indexSl (j := 3) rfl sl27 rfl rfl (by omega) nqq) ?_
  refine TL.eff0 rfl rfl (by first | exact X.store rfl sz5 rfl rfl rfl pul lnn (by first | exact setM | rfl) | exact X.storeOwn rfl sz5 rfl (Nat.zero_add _).symm rfl rfl pul lnn (by first | exact setML | rfl) | exact X.storeOwn rfl sz5 rfl rfl rfl rfl pul lnn (by first | exact setML | rfl)) ?_
  rintro _ _ rfl
  refine TL.nil ?_
  refine TQ.endE (res0 rfl) (⟨rfl, rfl⟩) ?_
  exact ett
theorem be32_magic : be32 554869826 = magicB := by decide
theorem take_len_le {l : List At} {k : Nat} : (bodyFrom [] ((l.map pl).take k)).length ≤ (bodyFrom [] ((l.map pl).take k)).length := Nat.le_refl _
theorem body_take {as' : List PA} {k : Nat} {a : PA} (h : as'[k]? = some a) (b : List UInt8) : bodyFrom b (as'.take (k + 1)) = pad4 (bodyFrom b (as'.take k) ++ attrB a) := by
  rw [List.take_add_one, h]; exact bodyFrom_snoc b _ a
theorem body_take_le {as' : List PA} (h : ∀ a ∈ as', a.2.length ≤ 512) (h16 : as'.length ≤ 16) (b : List UInt8) (k : Nat) : (bodyFrom b (as'.take k)).length ≤ b.length + 8320 := by
  have := bodyFrom_le (as'.take k) b (fun a ha => h a (List.mem_of_mem_take ha))
  have h2 : (as'.take k).length ≤ 16 := by rw [List.length_take]; omega
  omega
set_option maxHeartbeats 1000000 in
--REG rostrum/stun.Build : _ _ ⟨a{d}, c{d}, rfl, rfl⟩ => (stun.Build_fn _ _ _ _ _ _ _)
theorem Build_fn (c m : Int) (f : Nat → UInt8) (a : Option Addr) (cap : Nat) (l : List At) (L : List SA) :
    Fn Try.prog 11 [.agg (msgC c m f (.slice a l.length cap))] (SA.dat (⟨a, cap, l⟩ : Sl At) :: L)
      (fun v L' => ∃ b c', v = .tuple #[.slice b (ob (SM c m f ⟨a, cap, l⟩).build).length c', vN (oe (SM c m f ⟨a, cap, l⟩).build)] ∧
        L' = SA.owns 5 1 (.slice b (ob (SM c m f ⟨a, cap, l⟩).build).length c') (ob (SM c m f ⟨a, cap, l⟩).build).length ((ob (SM c m f ⟨a, cap, l⟩).build).map v8) :: SA.dat (⟨a, cap, l⟩ : Sl At) :: L) := by
  refine Fn.of (N := 69) Try.func11 rfl rfl ?_
  intro Xh
  refine TC.seq ?_
  refine TC.region ?_
  refine TL.eff rfl rfl rfl (X.boxA rfl rfl) ?_
  rintro _ _ ⟨b1, rfl, rfl⟩
  refine TL.val rfl rfl rfl (Y.assign rfl rfl) ?_
  refine TL.val rfl rfl rfl (Y.assign rfl rfl) ?_
  refine TL.nil ?_
  refine TQ.next ?_
  refine TC.seq ?_
  refine TC.seq ?_
  refine TC.region ?_
  refine TL.val rfl rfl rfl (Y.loadAgg rfl ag34 rfl (by first | exact Cels.datAt inn (by assumption) | exact Cels.full inn) (by first | rfl | ((try simp only [List.length_map, List.length_set, List.length_replicate]); omega))) ?_
  refine TL.as (.agg (msgC c m f (.slice a l.length cap))) (by rfl) ?_
  refine TL.eff rfl rfl rfl (X.call rfl Try.func32 (by kernel_rfl) rfl rfl (Fn.preE (by repeat first | (with_reducible apply Ent.refl) | (apply Ent.cons; case h => first | (with_reducible (repeat first | apply Pull.here | apply Pull.there); done) | (repeat first | apply Pull.here | apply Pull.there))) (stun.good_fn _ _ _ _ _ _ _))) ?_
  rintro _ _ ⟨rfl, rfl⟩
  refine TL.val rfl rfl rfl (Y.not rfl rfl) ?_
  refine TL.nil ?_
  refine TQ.next ?_
  refine TC.cond rfl (fun c0 => ?_) (fun c0 => ?_)
  · try simp only [decide_eq_true_eq, decide_eq_false_iff_not, Bool.not_eq_true', Bool.not_eq_false', Bool.and_eq_true, Bool.or_eq_true, Nat.not_lt, Nat.not_le, beq_iff_eq, bne_iff_ne] at c0
    have hb : (SM c m f ⟨a, cap, l⟩).build = none := by simp [SMsg.build, c0]
    rw [hb]
    refine TC.to (Ent.nilOwn 5 1) ?_
    refine TC.seq ?_
    refine TC.region ?_
    refine TL.val rfl rfl rfl (Y.assign rfl rfl) ?_
    refine TL.val rfl rfl rfl (Y.assign rfl rfl) ?_
    refine TL.nil ?_
    refine TQ.next ?_
    refine TC.ret ?_
    refine TQ.then_ret ?_
    refine TQ.retE (res2 rfl rfl rfl) (⟨_, _, rfl, rfl⟩) ?_
    exact ett
  · try simp only [decide_eq_true_eq, decide_eq_false_iff_not, Bool.not_eq_true', Bool.not_eq_false', Bool.and_eq_true, Bool.or_eq_true, Nat.not_lt, Nat.not_le, beq_iff_eq, bne_iff_ne] at c0
    obtain ⟨g1, g2, g3, g4, g5, g6⟩ := good_parts c0
    obtain ⟨cn, rfl⟩ : ∃ n : Nat, c = n := ⟨c.toNat, by simp only [SM] at g2; omega⟩
    obtain ⟨mn, rfl⟩ : ∃ n : Nat, m = n := ⟨m.toNat, by simp only [SM] at g4; omega⟩
    have hcn : cn ≤ 3 := by simp only [SM] at g3; omega
    have hmn : mn ≤ 4095 := by simp only [SM] at g5; omega
    have hl16 : l.length ≤ 16 := by
      have h := g6
      rw [show (SM (cn : Int) (mn : Int) f ⟨a, cap, l⟩).attrs = l.map pl from rfl, List.length_map] at h
      exact h
    have q1 : cn &&& 1 ≤ 1 := Nat.and_le_right
    have q2 : cn &&& 2 ≤ 2 := Nat.and_le_right
    have q3 : mn &&& 15 ≤ 15 := Nat.and_le_right
    have q4 : mn &&& 112 ≤ 112 := Nat.and_le_right
    have q5 : mn &&& 3968 ≤ 3968 := Nat.and_le_right
    have o1 : mn &&& 15 ||| (cn &&& 1) * 16 < 16384 := Nat.or_lt_two_pow (n := 14) (by omega) (by omega)
    have o2 : mn &&& 15 ||| (cn &&& 1) * 16 ||| (mn &&& 112) * 2 < 16384 := Nat.or_lt_two_pow (n := 14) (by omega) (by omega)
    have o3 : mn &&& 15 ||| (cn &&& 1) * 16 ||| (mn &&& 112) * 2 ||| (cn &&& 2) * 128 < 16384 := Nat.or_lt_two_pow (n := 14) (by omega) (by omega)
    have hkb := kindBits_eq cn mn hcn hmn
    have hkl := kindOf_lt cn mn hcn hmn
    refine TC.skip ?_
    refine TQ.next ?_
    refine TC.seq ?_
    refine TC.region ?_
    refine TL.eff rfl rfl rfl (X.alloc rfl zc69) ?_
    rintro _ _ ⟨b4, rfl, rfl⟩
    refine TL.nil ?_
    refine TQ.to wr.mk0 ?_
    refine TQ.next ?_
    refine TC.seq ?_
    refine TC.draws 6 _ (by kernel_rfl) (by kernel_rfl) (fun _ h => h) ?_
    refine TA.take 0 rfl rfl rfl rfl (by kernel_rfl) (by kernel_rfl) (by kernel_rfl) rfl (by kernel_rfl) (by kernel_rfl) (fun _ _ _ h => h) (by first | exact Y.fieldAddrJ rfl fo34_0 rfl nqq | exact Y.fieldAddr rfl fo34_0 rfl nqq) ?_
    refine TA.take 1 rfl rfl rfl rfl (by kernel_rfl) (by kernel_rfl) (by kernel_rfl) rfl (by kernel_rfl) (by kernel_rfl) (fun _ _ _ h => h) (Y.load rfl sc3 rfl celN) ?_
    refine TA.take 2 rfl rfl rfl rfl (by kernel_rfl) (by kernel_rfl) (by kernel_rfl) rfl (by kernel_rfl) (by kernel_rfl) (fun _ _ _ h => h) (by first | exact Y.fieldAddrJ rfl fo34_1 rfl nqq | exact Y.fieldAddr rfl fo34_1 rfl nqq) ?_
    refine TA.take 3 rfl rfl rfl rfl (by kernel_rfl) (by kernel_rfl) (by kernel_rfl) rfl (by kernel_rfl) (by kernel_rfl) (fun _ _ _ h => h) (Y.load rfl sc3 rfl celN) ?_
    refine TA.take 4 rfl rfl rfl rfl (by kernel_rfl) (by kernel_rfl) (by kernel_rfl) rfl (by kernel_rfl) (by kernel_rfl) (fun _ _ _ h => h) (Y.assign rfl rfl) ?_
    refine TA.take 5 rfl rfl rfl rfl (by kernel_rfl) (by kernel_rfl) (by kernel_rfl) rfl (by kernel_rfl) (by kernel_rfl) (fun _ _ _ h => h) (Y.assign rfl rfl) ?_
    refine TA.done (by kernel_rfl) ?_
    refine TQ.next ?_
    refine TC.seq ?_
    refine TC.region ?_
    refine TL.val rfl rfl rfl (Y.move rfl rfl) ?_
    refine TL.val rfl rfl rfl (Y.bin rfl rfl rfl (br_andN (n := 15) (by omega) (by omega))) ?_
    refine TL.val rfl rfl rfl (Y.move rfl rfl) ?_
    refine TL.val rfl rfl rfl (Y.bin rfl rfl rfl (br_andN (n := 1) (by omega) (by omega))) ?_
    refine TL.val rfl rfl rfl (Y.bin rfl rfl rfl (br_shlN (n := 4) (c := 16) rfl (by omega) (by omega))) ?_
    refine TL.val rfl rfl rfl (Y.bin rfl rfl rfl (br_orN (by omega) (by omega))) ?_
    refine TL.val rfl rfl rfl (Y.move rfl rfl) ?_
    refine TL.val rfl rfl rfl (Y.bin rfl rfl rfl (br_andN (n := 112) (by omega) (by omega))) ?_
    refine TL.val rfl rfl rfl (Y.bin rfl rfl rfl (br_shlN (n := 1) (c := 2) rfl (by omega) (by omega))) ?_
    refine TL.val rfl rfl rfl (Y.bin rfl rfl rfl (br_orN (by omega) (by omega))) ?_
    refine TL.val rfl rfl rfl (Y.move rfl rfl) ?_
    refine TL.val rfl rfl rfl (Y.bin rfl rfl rfl (br_andN (n := 2) (by omega) (by omega))) ?_
    refine TL.val rfl rfl rfl (Y.bin rfl rfl rfl (br_shlN (n := 7) (c := 128) rfl (by omega) (by omega))) ?_
    refine TL.val rfl rfl rfl (Y.bin rfl rfl rfl (br_orN (by omega) (by omega))) ?_
    refine TL.val rfl rfl rfl (Y.move rfl rfl) ?_
    refine TL.val rfl rfl rfl (Y.bin rfl rfl rfl (br_andN (n := 3968) (by omega) (by omega))) ?_
    refine TL.val rfl rfl rfl (Y.bin rfl rfl rfl (br_shlN (n := 2) (c := 4) rfl (by omega) (by omega))) ?_
    refine TL.val rfl rfl rfl (Y.bin rfl rfl rfl (br_orN (by omega) (by omega))) ?_
    refine TL.val rfl rfl rfl (Y.conv rfl Try.underlying3 Try.underlying44 rfl (cv_N_16)) ?_
    refine TL.eff rfl rfl rfl (X.call rfl Try.func33 (by kernel_rfl) rfl rfl (Fn.preE (by repeat first | (with_reducible apply Ent.refl) | (apply Ent.cons; case h => first | (with_reducible (repeat first | apply Pull.here | apply Pull.there); done) | (repeat first | apply Pull.here | apply Pull.there))) (wr.U16_fn _ _ _ (by first | omega | (simp only [List.length_append, List.length_nil, List.length_cons, wr.be16_len, wr.be32_len]; omega) | (simp only [List.length_append, List.length_nil, List.length_cons, wr.be16_len, wr.be32_len, r1.be2_len, r1.be4_len]; omega) | (simp; omega)) _))) ?_
    rintro _ _ ⟨rfl, rfl⟩
    refine TL.nil ?_
    rw [show UInt16.ofNat (mn &&& 15 ||| (cn &&& 1) * 16 ||| (mn &&& 112) * 2 ||| (cn &&& 2) * 128 ||| (mn &&& 3968) * 4) = UInt16.ofNat (kindOf cn mn) from congrArg _ hkb, be16_ofNat _ hkl]
    refine TQ.next ?_
    refine TC.seq ?_
    refine TC.region ?_
    refine TL.eff rfl rfl rfl (X.call rfl Try.func33 (by kernel_rfl) rfl rfl (Fn.preE (by repeat first | (with_reducible apply Ent.refl) | (apply Ent.cons; case h => first | (with_reducible (repeat first | apply Pull.here | apply Pull.there); done) | (repeat first | apply Pull.here | apply Pull.there))) (wr.U16_fn _ 0 _ (by first | omega | (simp only [List.length_append, List.length_nil, List.length_cons, wr.be16_len, wr.be32_len]; omega) | (simp only [List.length_append, List.length_nil, List.length_cons, wr.be16_len, wr.be32_len, r1.be2_len, r1.be4_len]; omega) | (simp; omega)) _))) ?_
    rintro _ _ ⟨rfl, rfl⟩
    refine TL.nil ?_
    refine TQ.next ?_
    refine TC.seq ?_
    refine TC.region ?_
    refine TL.eff rfl rfl rfl (X.call rfl Try.func34 (by kernel_rfl) rfl rfl (Fn.preE (by repeat first | (with_reducible apply Ent.refl) | (apply Ent.cons; case h => first | (with_reducible (repeat first | apply Pull.here | apply Pull.there); done) | (repeat first | apply Pull.here | apply Pull.there))) (wr.U32_fn _ 554869826 _ (by first | omega | (simp only [List.length_append, List.length_nil, List.length_cons, wr.be16_len, wr.be32_len]; omega) | (simp only [List.length_append, List.length_nil, List.length_cons, wr.be16_len, wr.be32_len, r1.be2_len, r1.be4_len]; omega) | (simp; omega)) _))) ?_
    rintro _ _ ⟨rfl, rfl⟩
    refine TL.nil ?_
    rw [be32_magic, show be16 0 = be2 0 from rfl, List.nil_append]
    refine TQ.next ?_
    refine TC.seq ?_
    refine TC.region ?_
    refine TL.val rfl rfl rfl (by first | exact Y.fieldAddrJ rfl fo34_2 rfl nqq | exact Y.fieldAddr rfl fo34_2 rfl nqq) ?_
    refine TL.val rfl rfl rfl (Y.sliceArr rfl Try.underlying22 sz5 rfl) ?_
    refine TL.eff rfl rfl rfl (X.call rfl Try.func35 (by kernel_rfl) rfl rfl (Fn.preE (by repeat first | (with_reducible apply Ent.refl) | (apply Ent.cons; case h => first | (with_reducible (repeat first | apply Pull.here | apply Pull.there); done) | (repeat first | apply Pull.here | apply Pull.there))) (wr.Bytes_fn (SA.blk b1 (msgC cn mn f (.slice a l.length cap)) 34) _ _ _ _ _ (idL f) readsId rfl (by simp [be2, magicB, be4]) _))) ?_
    rintro _ _ ⟨rfl, rfl⟩
    refine TL.nil ?_
    generalize hH : be2 (kindOf cn mn) ++ be2 0 ++ magicB ++ idL f = H
    have hHl : H.length = 20 := by rw [← hH]; simp [be2, magicB, be4]
    refine TQ.next ?_
    refine TC.seq ?_
    refine TC.seq ?_
    refine TC.region ?_
    refine TL.val rfl rfl rfl (by first | exact Y.fieldAddrJ rfl fo34_3 rfl nqq | exact Y.fieldAddr rfl fo34_3 rfl nqq) ?_
    refine TL.val rfl rfl rfl (Y.load rfl sc32 rfl celD) ?_
    refine TL.val rfl rfl rfl (Y.len rfl Try.underlying32 rfl) ?_
    refine TL.val rfl rfl rfl (Y.move rfl rfl) ?_
    refine TL.nil ?_
    refine TQ.next ?_
    refine TC.block ?_
    refine TC.loopF (ι := Nat) [] (fun k => k ≤ l.length) (fun k => [(44, some (vN k))]) (fun k => [wr.W b4 (bodyFrom H ((l.map pl).take k))]) (fun k => l.length - k) (0) (by omega) ⟨rfl, trivial⟩ (Pulls.cons pul Pulls.nil) ?_
    rintro k hk F' L' rfl hL'
    simp only [List.cons_append, List.nil_append] at hL'
    subst hL'
    have hbl := body_take_le (as' := l.map pl) g1 g6 H k
    refine TC.seq ?_
    refine TC.region ?_
    refine TL.val rfl rfl rfl (Y.bin rfl rfl rfl (br_ltN)) ?_
    refine TL.nil ?_
    refine TQ.next ?_
    refine TC.seq ?_
    refine TC.cond rfl (fun c1 => ?_) (fun c1 => ?_)
    · try simp only [decide_eq_true_eq, decide_eq_false_iff_not, Bool.not_eq_true', Bool.not_eq_false', Bool.and_eq_true, Bool.or_eq_true, Nat.not_lt, Nat.not_le, beq_iff_eq, bne_iff_ne] at c1
      refine TC.skip ?_
      refine TQ.next ?_
      refine TC.seq ?_
      refine TC.block ?_
      refine TC.seq ?_
      obtain ⟨⟨t, a1, ac, bs⟩, hx, hxm⟩ := getS (l := l) (i := k) (by omega)
      refine TC.know (dat_some (a := a) inn (by omega)) ?_
      rintro ⟨g, off, rfl⟩
      have hp := at_pl hx
      have hbs : bs.length ≤ 512 := g1 (t, bs) (List.mem_of_getElem? hp)
      refine TC.region ?_
      refine TL.val rfl rfl rfl (by first | exact Y.indexSlB rfl sl32 rfl rfl (by omega) nqq | exact Y.indexSl rfl sl32 rfl rfl (by omega) nqq) ?_
      refine TL.val rfl rfl rfl (Y.loadAgg rfl ag73 rfl (by first | exact Cels.datAt inn (by assumption) | exact Cels.full inn) (by first | rfl | ((try simp only [List.length_map, List.length_set, List.length_replicate]); omega))) ?_
      refine TL.as (.agg #[v16 t, .slice a1 bs.length ac]) (by rfl) ?_
      refine TL.eff rfl rfl rfl (X.alloc rfl zc73) ?_
      rintro _ _ ⟨b8, rfl, rfl⟩
      refine TL.eff0 rfl rfl (by first | exact X.storeAll rfl sz73 (by rfl) rfl rfl (allOne (by rfl)) pul (by rfl) | exact X.storeAll rfl sz73 szz rfl rfl (by simp [Value.oneCell']) pul szz | exact X.storeAgg rfl sz73 szz rfl rfl (by simp [Value.oneCell']) pul szz (writeM (by ((try simp only [List.length_set, List.length_map, List.length_append, List.length_replicate]); omega)))) ?_
      rintro _ _ rfl
      refine TL.nil ?_
      refine TQ.next ?_
      refine TC.seq ?_
      refine TC.region ?_
      refine TL.val rfl rfl rfl (by first | exact Y.fieldAddrJ rfl fo73_0 rfl nqq | exact Y.fieldAddr rfl fo73_0 rfl nqq) ?_
      refine TL.val rfl rfl rfl (Y.load rfl sc44 rfl cel16) ?_
      refine TL.eff rfl rfl rfl (X.call rfl Try.func33 (by kernel_rfl) rfl rfl (Fn.preE (by repeat first | (with_reducible apply Ent.refl) | (apply Ent.cons; case h => first | (with_reducible (repeat first | apply Pull.here | apply Pull.there); done) | (repeat first | apply Pull.here | apply Pull.there))) (wr.U16_fn _ _ _ (by first | omega | (simp only [List.length_append, List.length_nil, List.length_cons, wr.be16_len, wr.be32_len]; omega) | (simp only [List.length_append, List.length_nil, List.length_cons, wr.be16_len, wr.be32_len, r1.be2_len, r1.be4_len]; omega) | (simp; omega)) _))) ?_
      rintro _ _ ⟨rfl, rfl⟩
      refine TL.nil ?_
      refine TQ.next ?_
      refine TC.seq ?_
      refine TC.region ?_
      refine TL.val rfl rfl rfl (by first | exact Y.fieldAddrJ rfl fo73_1 rfl nqq | exact Y.fieldAddr rfl fo73_1 rfl nqq) ?_
      refine TL.val rfl rfl rfl (Y.load rfl sc27 rfl celD) ?_
      refine TL.val rfl rfl rfl (Y.len rfl Try.underlying27 rfl) ?_
      refine TL.val rfl rfl rfl (Y.conv rfl Try.underlying3 Try.underlying44 rfl (cv_N_16)) ?_
      refine TL.eff rfl rfl rfl (X.call rfl Try.func33 (by kernel_rfl) rfl rfl (Fn.preE (by repeat first | (with_reducible apply Ent.refl) | (apply Ent.cons; case h => first | (with_reducible (repeat first | apply Pull.here | apply Pull.there); done) | (repeat first | apply Pull.here | apply Pull.there))) (wr.U16_fn _ _ _ (by first | omega | (simp only [List.length_append, List.length_nil, List.length_cons, wr.be16_len, wr.be32_len]; omega) | (simp only [List.length_append, List.length_nil, List.length_cons, wr.be16_len, wr.be32_len, r1.be2_len, r1.be4_len]; omega) | (simp; omega)) _))) ?_
      rintro _ _ ⟨rfl, rfl⟩
      refine TL.nil ?_
      rw [be16_ofNat _ (by omega), be16_two]
      refine TQ.next ?_
      refine TC.seq ?_
      refine TC.to ((Pull.ent (A := SA.dat (⟨some ⟨g, off, none⟩, cap, l⟩ : Sl At)) pul).trans ((Ent.elem hxm).trans (Ent.snd.trans Ent.bytesOf))) ?_
      refine TC.region ?_
      refine TL.val rfl rfl rfl (by first | exact Y.fieldAddrJ rfl fo73_1 rfl nqq | exact Y.fieldAddr rfl fo73_1 rfl nqq) ?_
      refine TL.val rfl rfl rfl (Y.load rfl sc27 rfl celD) ?_
      refine TL.eff rfl rfl rfl (X.call rfl Try.func35 (by kernel_rfl) rfl rfl (Fn.preE (by repeat first | (with_reducible apply Ent.refl) | (apply Ent.cons; case h => first | (with_reducible (repeat first | apply Pull.here | apply Pull.there); done) | (repeat first | apply Pull.here | apply Pull.there))) (wr.BytesR_fn _ _ _ _ _ _ (by first | assumption | rfl | omega) (by first | omega | (simp only [List.length_append, List.length_nil, List.length_cons, wr.be16_len, wr.be32_len]; omega) | (simp only [List.length_append, List.length_nil, List.length_cons, wr.be16_len, wr.be32_len, r1.be2_len, r1.be4_len]; omega) | (simp; omega)) _))) ?_
      rintro _ _ ⟨rfl, rfl⟩
      refine TL.nil ?_
      refine TQ.next ?_
      refine TC.region ?_
      refine TL.eff rfl rfl rfl (X.call rfl Try.func36 (by kernel_rfl) rfl rfl (Fn.preE (by repeat first | (with_reducible apply Ent.refl) | (apply Ent.cons; case h => first | (with_reducible (repeat first | apply Pull.here | apply Pull.there); done) | (repeat first | apply Pull.here | apply Pull.there))) (wr.Even_fn _ _ (by first | omega | (simp only [List.length_append, List.length_nil, List.length_cons, wr.be16_len, wr.be32_len]; omega) | (simp only [List.length_append, List.length_nil, List.length_cons, wr.be16_len, wr.be32_len, r1.be2_len, r1.be4_len]; omega) | (simp; omega)) _))) ?_
      rintro _ _ ⟨rfl, rfl⟩
      refine TL.nil ?_
      rw [show pad4 (bodyFrom H ((l.map pl).take k) ++ be2 t.toNat ++ be2 bs.length ++ bs) = bodyFrom H ((l.map pl).take (k + 1)) by rw [body_take hp]; simp [attrB]]
      refine TQ.block_normal ?_
      refine TQ.next ?_
      refine TC.region ?_
      refine TL.val rfl rfl rfl (Y.bin rfl rfl rfl (br_addN (n := 1) (by omega))) ?_
      refine TL.val rfl rfl rfl (Y.move rfl rfl) ?_
      refine TL.nil ?_
      refine TQ.loopF (k + 1) (by omega) (by omega) ⟨rfl, trivial⟩ (by (repeat first | apply Grow.refl | apply Grow.step | apply Grow.app)) ?_ ?_ ?_
      · kernel_rfl
      · rfl
      · simp only [List.cons_append, List.nil_append]
        exact ett
    · try simp only [decide_eq_true_eq, decide_eq_false_iff_not, Bool.not_eq_true', Bool.not_eq_false', Bool.and_eq_true, Bool.or_eq_true, Nat.not_lt, Nat.not_le, beq_iff_eq, bne_iff_ne] at c1
      refine TC.exit ?_
      refine TQ.then_exit ?_
      refine TQ.then_exit ?_
      refine TQ.block_exit ?_
      refine TQ.next ?_
      refine TC.seq ?_
      refine TC.seq ?_
      obtain rfl : k = l.length := by omega
      have hdr : bodyFrom H ((l.map pl).take l.length) = (SM cn mn f ⟨a, cap, l⟩).draft := by
        rw [← List.length_map (f := pl), List.take_length, ← hH]; rfl
      rw [hdr]
      have hdl := draft_length (SM cn mn f ⟨a, cap, l⟩) rfl
      have hd20 := draft_len20 (SM cn mn f ⟨a, cap, l⟩) rfl
      generalize hD : (SM cn mn f ⟨a, cap, l⟩).draft = D at *
      refine TC.open pul ?_
      rintro ⟨wa, wc⟩
      refine TC.split pul ?_
      refine TC.region ?_
      refine TL.val rfl rfl rfl (Y.load rfl sc69 rfl celD) ?_
      refine TL.val rfl rfl rfl (Y.len rfl Try.underlying69 rfl) ?_
      refine TL.val rfl rfl rfl (Y.bin rfl rfl rfl (br_gtN (n := 1500))) ?_
      refine TL.nil ?_
      refine TQ.next ?_
      refine TC.cond rfl (fun c2 => ?_) (fun c2 => ?_)
      · try simp only [decide_eq_true_eq, decide_eq_false_iff_not, Bool.not_eq_true', Bool.not_eq_false', Bool.and_eq_true, Bool.or_eq_true, Nat.not_lt, Nat.not_le, beq_iff_eq, bne_iff_ne] at c2
        have hb : (SM cn mn f ⟨a, cap, l⟩).build = none := by simp [SMsg.build, ← hdl]; intro _; omega
        rw [hb]
        refine TC.to (Ent.nilOwn 5 1) ?_
        refine TC.seq ?_
        refine TC.region ?_
        refine TL.val rfl rfl rfl (Y.assign rfl rfl) ?_
        refine TL.val rfl rfl rfl (Y.assign rfl rfl) ?_
        refine TL.nil ?_
        refine TQ.next ?_
        refine TC.ret ?_
        refine TQ.then_ret ?_
        refine TQ.retE (res2 rfl rfl rfl) (⟨_, _, rfl, rfl⟩) ?_
        exact ett
      · try simp only [decide_eq_true_eq, decide_eq_false_iff_not, Bool.not_eq_true', Bool.not_eq_false', Bool.and_eq_true, Bool.or_eq_true, Nat.not_lt, Nat.not_le, beq_iff_eq, bne_iff_ne] at c2
        have hb : (SM cn mn f ⟨a, cap, l⟩).build = some (setLen D D.length) := by
          rw [SMsg.build, if_pos ⟨c0, by rw [← hdl]; omega⟩, ← hD, draft_set _ rfl]
        rw [hb, show ob (some (setLen D D.length)) = setLen D D.length from rfl, setLen_len]
        refine TC.know (owns_some (a := wa) inn (by omega)) ?_
        rintro ⟨wg, woff, rfl⟩
        refine TC.skip ?_
        refine TQ.next ?_
        refine TC.seq ?_
        refine TC.region ?_
        refine TL.val rfl rfl rfl (Y.load rfl sc69 rfl celD) ?_
        refine TL.val rfl rfl rfl (Y.load rfl sc69 rfl celD) ?_
        refine TL.val rfl rfl rfl (Y.len rfl Try.underlying69 rfl) ?_
        refine TL.eff rfl rfl rfl (X.call rfl Try.func37 (by kernel_rfl) rfl rfl (Fn.preE (by repeat first | (with_reducible apply Ent.refl) | (apply Ent.cons; case h => first | (with_reducible (repeat first | apply Pull.here | apply Pull.there); done) | (repeat first | apply Pull.here | apply Pull.there))) (size_fn _ _ _ _ _ _ rfl (by omega) (by omega) (by omega) _))) ?_
        rintro _ _ ⟨rfl, rfl⟩
        refine TL.nil ?_
        refine TQ.next ?_
        refine TC.seq ?_
        refine TC.region ?_
        refine TL.val rfl rfl rfl (Y.load rfl sc69 rfl celD) ?_
        refine TL.val rfl rfl rfl (Y.assign rfl rfl) ?_
        refine TL.val rfl rfl rfl (Y.assign rfl rfl) ?_
        refine TL.nil ?_
        refine TQ.next ?_
        refine TC.ret ?_
        refine TQ.retE (res2 rfl rfl rfl) (⟨_, _, rfl, rfl⟩) ?_
        exact ett
end stun
end Go.Proofs.Ytggammbhmoippaa
