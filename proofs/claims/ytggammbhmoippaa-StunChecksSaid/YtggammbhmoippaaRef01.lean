/- The document's bytes: Two, Four, Join, Number. -/
import Derived.Test.YtggammbhmoippaaChecked
import Derived.Test.YtggammbhmoippaaHInt
import Derived.Test.YtggammbhmoippaaHAuto
namespace Go.Proofs.Ytggammbhmoippaa
set_option linter.unusedVariables false
set_option linter.unusedSimpArgs false
open Go.RowKit
namespace r1
namespace FxRef01
set_option maxRecDepth 100000
theorem el27 : Elt Try.prog 27 5 1 1 (.int .u8 0) := ⟨Try.underlying27, by kernel_rfl, rfl, by decide, by simp [Value.cells, Value.oneCell']⟩
theorem sc27 : Program.isSc Try.prog 27 = true := by kernel_rfl
theorem sl89 : Program.slI Try.prog 89 = some 1 := by kernel_rfl
end FxRef01
open FxRef01
def be2 (n : Nat) : List UInt8 := [UInt8.ofNat (n / 256), UInt8.ofNat n]
def be4 (x : UInt32) : List UInt8 := [(shr32 x 24).toUInt8, (shr32 x 16).toUInt8, (shr32 x 8).toUInt8, x.toUInt8]
theorem be2_len (n : Nat) : (be2 n).length = 2 := rfl
theorem be4_len (x : UInt32) : (be4 x).length = 4 := rfl
--REG rostrum/rostrumref01.Two : _ _ ⟨g{d}, rfl, rfl⟩ => (r1.Two_fn {0} (by omega) _)
theorem Two_fn (n : Nat) (hn : n < 4294967296) (L : List SA) : Fn Try.prog 30 [vN n] L (fun v L' => ∃ g, v = .slice (some ⟨g, 0, none⟩) 2 2 ∧ L' = SA.owns 5 1 (.slice (some ⟨g, 0, none⟩) 2 2) 2 ((be2 n).map v8) :: L) := by
  refine Fn.of (N := 9) Try.func30 rfl rfl ?_
  intro Xh
  refine TC.seq ?_
  refine TC.region ?_
  refine TL.val rfl rfl rfl (Y.assign rfl rfl) ?_
  refine TL.nil ?_
  refine TQ.next ?_
  refine TC.seq ?_
  refine TC.region ?_
  refine TL.val rfl rfl rfl (Y.move rfl rfl) ?_
  refine TL.val rfl rfl rfl (Y.bin rfl rfl rfl (br_shrN (n := 8) (c := 256) rfl (by omega))) ?_
  refine TL.val rfl rfl rfl (Y.conv rfl Try.underlying3 Try.underlying5 rfl (cv_N_8)) ?_
  refine TL.val rfl rfl rfl (Y.move rfl rfl) ?_
  refine TL.val rfl rfl rfl (Y.conv rfl Try.underlying3 Try.underlying5 rfl (cv_N_8)) ?_
  refine TL.eff rfl rfl rfl (X.lit rfl el27 rfl rfl rfl (by decide) rfl) ?_
  rintro _ _ ⟨g8, rfl, rfl⟩
  refine TL.val rfl rfl rfl (Y.assign rfl rfl) ?_
  refine TL.nil ?_
  refine TQ.next ?_
  refine TC.ret ?_
  refine TQ.retE (res1 rfl rfl) (⟨g8, rfl, rfl⟩) ?_
  exact ett
--REG rostrum/rostrumref01.Four : _ _ ⟨g{d}, rfl, rfl⟩ => (r1.Four_fn {0} _)
theorem Four_fn (x : UInt32) (L : List SA) : Fn Try.prog 31 [v32 x] L (fun v L' => ∃ g, v = .slice (some ⟨g, 0, none⟩) 4 4 ∧ L' = SA.owns 5 1 (.slice (some ⟨g, 0, none⟩) 4 4) 4 ((be4 x).map v8) :: L) := by
  refine Fn.of (N := 15) Try.func31 rfl rfl ?_
  intro Xh
  refine TC.seq ?_
  refine TC.region ?_
  refine TL.val rfl rfl rfl (Y.assign rfl rfl) ?_
  refine TL.nil ?_
  refine TQ.next ?_
  refine TC.seq ?_
  refine TC.region ?_
  refine TL.val rfl rfl rfl (Y.move rfl rfl) ?_
  refine TL.val rfl rfl rfl (Y.bin rfl rfl rfl (br_shr32 (n := 24))) ?_
  refine TL.val rfl rfl rfl (Y.conv rfl Try.underlying45 Try.underlying5 rfl (cv_32_8)) ?_
  refine TL.val rfl rfl rfl (Y.move rfl rfl) ?_
  refine TL.val rfl rfl rfl (Y.bin rfl rfl rfl (br_shr32 (n := 16))) ?_
  refine TL.val rfl rfl rfl (Y.conv rfl Try.underlying45 Try.underlying5 rfl (cv_32_8)) ?_
  refine TL.val rfl rfl rfl (Y.move rfl rfl) ?_
  refine TL.val rfl rfl rfl (Y.bin rfl rfl rfl (br_shr32 (n := 8))) ?_
  refine TL.val rfl rfl rfl (Y.conv rfl Try.underlying45 Try.underlying5 rfl (cv_32_8)) ?_
  refine TL.val rfl rfl rfl (Y.move rfl rfl) ?_
  refine TL.val rfl rfl rfl (Y.conv rfl Try.underlying45 Try.underlying5 rfl (cv_32_8)) ?_
  refine TL.eff rfl rfl rfl (X.lit rfl el27 rfl rfl rfl (by decide) rfl) ?_
  rintro _ _ ⟨g14, rfl, rfl⟩
  refine TL.val rfl rfl rfl (Y.assign rfl rfl) ?_
  refine TL.nil ?_
  refine TQ.next ?_
  refine TC.ret ?_
  refine TQ.retE (res1 rfl rfl) (⟨g14, rfl, rfl⟩) ?_
  exact ett
def flat (ps : List Bs) : List UInt8 := ps.flatMap (·.l)
theorem flat_s (ps : List Bs) (k : Nat) (x : Bs) (h : ps[k]? = some x) : flat (ps.take (k + 1)) = flat (ps.take k) ++ x.l := by
  rw [List.take_add_one, h]; simp [flat]
theorem flat_le (ps : List Bs) (k : Nat) : (flat (ps.take k)).length ≤ (flat ps).length := by
  have : flat ps = flat (ps.take k) ++ flat (ps.drop k) := by rw [flat, flat, flat, ← List.flatMap_append, List.take_append_drop]
  rw [this, List.length_append]; omega
--REG rostrum/rostrumref01.Join : _ _ ⟨a{d}, c{d}, rfl, rfl⟩ => (r1.Join_fn _ _ _ (by omega) _)
theorem Join_fn (a : Option Addr) (cap : Nat) (ps : List Bs) (hl : (flat ps).length ≤ 140737488351232) (L : List SA) :
    Fn Try.prog 29 [.slice a ps.length cap] (SA.dat (⟨a, cap, ps⟩ : Sl Bs) :: L) (fun v L' => ∃ a' c', v = .slice a' (flat ps).length c' ∧ L' = SA.owns 5 1 (.slice a' (flat ps).length c') (flat ps).length ((flat ps).map v8) :: SA.dat (⟨a, cap, ps⟩ : Sl Bs) :: L) := by
  refine Fn.of (N := 18) Try.func29 rfl rfl ?_
  intro Xh
  refine TC.seq ?_
  refine TC.region ?_
  refine TL.val rfl rfl rfl (Y.assign rfl rfl) ?_
  refine TL.nil ?_
  refine TQ.next ?_
  refine TC.seq ?_
  refine TC.region ?_
  refine TL.val rfl rfl rfl (Y.assign rfl rfl) ?_
  refine TL.nil ?_
  refine TQ.next ?_
  refine TC.seq ?_
  refine TC.seq ?_
  refine TC.region ?_
  refine TL.val rfl rfl rfl (Y.move rfl rfl) ?_
  refine TL.val rfl rfl rfl (Y.len rfl Try.underlying89 rfl) ?_
  refine TL.val rfl rfl rfl (Y.move rfl rfl) ?_
  refine TL.nil ?_
  refine TQ.next ?_
  refine TC.block ?_
  refine TC.know (dat_cap (a := a) inn) ?_
  rintro ⟨hc1, hc2, -⟩
  refine TC.to (Ent.nilOwn 5 1) ?_
  refine TC.loopF (ι := Nat × Option Addr × Nat) [] (fun i => i.1 ≤ ps.length) (fun i => [(7, some (vN i.1)), (3, some (.slice i.2.1 (flat (ps.take i.1)).length i.2.2))]) (fun i => [SA.owns 5 1 (.slice i.2.1 (flat (ps.take i.1)).length i.2.2) (flat (ps.take i.1)).length ((flat (ps.take i.1)).map v8)]) (fun i => ps.length - i.1) ((0, none, 0)) (by omega) ⟨rfl, rfl, trivial⟩ (Pulls.cons pul Pulls.nil) ?_
  rintro ⟨k, b, c⟩ hk F' L' rfl hL'
  simp only [List.cons_append, List.nil_append] at hL'
  subst hL'
  simp only at hk ⊢
  refine TC.seq ?_
  refine TC.region ?_
  refine TL.val rfl rfl rfl (Y.bin rfl rfl rfl (br_ltN)) ?_
  refine TL.nil ?_
  refine TQ.next ?_
  refine TC.seq ?_
  refine TC.cond rfl (fun c0 => ?_) (fun c0 => ?_)
  · try simp only [decide_eq_true_eq, decide_eq_false_iff_not, Bool.not_eq_true', Bool.not_eq_false', Bool.and_eq_true, Bool.or_eq_true, Nat.not_lt, Nat.not_le, beq_iff_eq, bne_iff_ne] at c0
    refine TC.skip ?_
    refine TQ.next ?_
    refine TC.seq ?_
    refine TC.block ?_
    refine TC.seq ?_
    obtain ⟨x, hx, hxm⟩ := getS (l := ps) (i := k) (by omega)
    refine TC.know (dat_some (a := a) inn (by omega)) ?_
    rintro ⟨g, off, rfl⟩
    have hfs := flat_s ps k x hx
    have hfl := flat_le ps (k + 1)
    have hfe : (flat (ps.take (k + 1))).length = (flat (ps.take k)).length + x.l.length := by rw [hfs, List.length_append]
    refine TC.region ?_
    refine TL.val rfl rfl rfl (Y.move rfl rfl) ?_
    refine TL.val rfl rfl rfl (Y.assign rfl rfl) ?_
    refine TL.nil ?_
    refine TQ.next ?_
    refine TC.region ?_
    refine TL.val rfl rfl rfl (Y.move rfl rfl) ?_
    refine TL.val rfl rfl rfl (Y.move rfl rfl) ?_
    refine TL.val rfl rfl rfl (Y.move rfl rfl) ?_
    refine TL.val rfl rfl rfl (by first | exact Y.indexSlB rfl sl89 rfl rfl (by omega) nqq | exact Y.indexSl rfl sl89 rfl rfl (by omega) nqq) ?_
    refine TL.val rfl rfl rfl (Y.load rfl sc27 rfl celD) ?_
    refine TL.eff rfl rfl rfl (X.appendS rfl el27 rfl pul rfl (Src.reads (u := x.v) (n := x.l.length) (cs := x.l.map v8) (A := SA.dat (⟨some ⟨g, off, none⟩, cap, ps⟩ : Sl Bs)) (fun w O R h => (Reads.dat (s := x)) w O R (fun q hq => h q (List.mem_cons_of_mem _ (List.mem_flatMap.2 ⟨x, hxm, hq⟩)))) Try.underlying27 inn) (by simp only [maxLen]; omega) (by omega)) ?_
    rintro _ _ ⟨a15, c15, rfl, rfl⟩
    refine TL.val rfl rfl rfl (Y.assign rfl rfl) ?_
    refine TL.nil ?_
    refine TQ.block_normal ?_
    refine TQ.next ?_
    refine TC.region ?_
    refine TL.val rfl rfl rfl (Y.bin rfl rfl rfl (br_addN (n := 1) (by omega))) ?_
    refine TL.val rfl rfl rfl (Y.move rfl rfl) ?_
    refine TL.nil ?_
    rw [← hfe]
    refine TQ.loopF ((k + 1, a15, c15)) (by simp only; omega) (by simp only; omega) ⟨rfl, rfl, trivial⟩ (by (repeat first | apply Grow.refl | apply Grow.step | apply Grow.app)) ?_ ?_ ?_
    · kernel_rfl
    · rfl
    · simp only [List.cons_append, List.nil_append]
      exact (by rw [hfs, List.map_append]; exact ett)
  · try simp only [decide_eq_true_eq, decide_eq_false_iff_not, Bool.not_eq_true', Bool.not_eq_false', Bool.and_eq_true, Bool.or_eq_true, Nat.not_lt, Nat.not_le, beq_iff_eq, bne_iff_ne] at c0
    refine TC.exit ?_
    refine TQ.then_exit ?_
    refine TQ.then_exit ?_
    refine TQ.block_exit ?_
    refine TQ.next ?_
    refine TC.seq ?_
    obtain rfl : k = ps.length := by omega
    rw [List.take_length]
    refine TC.region ?_
    refine TL.val rfl rfl rfl (Y.move rfl rfl) ?_
    refine TL.val rfl rfl rfl (Y.assign rfl rfl) ?_
    refine TL.nil ?_
    refine TQ.next ?_
    refine TC.ret ?_
    refine TQ.retE (res1 rfl rfl) (⟨b, c, rfl, rfl⟩) ?_
    exact ett
end r1
end Go.Proofs.Ytggammbhmoippaa
