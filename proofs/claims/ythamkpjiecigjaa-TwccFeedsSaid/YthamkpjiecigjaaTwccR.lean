/- twcc: the document's recorder. -/
import Derived.Test.YthamkpjiecigjaaTwcc
namespace Go.Proofs.Ythamkpjiecigjaa
set_option linter.unusedVariables false
set_option linter.unusedSimpArgs false
open Go.RowKit
namespace tw
namespace FxTwccR
set_option maxRecDepth 100000
theorem el70 : Elt Try.prog 70 79 2 16 (.agg #[.int .u16 0, .int .i64 0]) := ⟨Try.underlying70, by kernel_rfl, rfl, by decide, by simp [Value.cells, Value.oneCell']⟩
theorem fo72_0 : Program.fieldOff Try.prog 72 0 = some 0 := by kernel_rfl
theorem fo79_0 : Program.fieldOff Try.prog 79 0 = some 0 := by kernel_rfl
theorem pl72 : Program.places Try.prog 72 = some [(0, 1), (1, 1)] := by kernel_rfl
theorem pl79 : Program.places Try.prog 79 = some [(0, 1), (1, 1)] := by kernel_rfl
theorem sc29 : Program.isSc Try.prog 29 = true := by kernel_rfl
theorem sc70 : Program.isSc Try.prog 70 = true := by kernel_rfl
theorem sl70 : Program.slI Try.prog 70 = some 2 := by kernel_rfl
theorem sz70 : (Try.prog.info? 70).map (·.size) = some 1 := by kernel_rfl
theorem sz79 : (Try.prog.info? 79).map (·.size) = some 2 := by kernel_rfl
theorem zc72 : Program.zeroC Try.prog 72 = some #[.slice none 0 0, .int .u8 0] := by kernel_rfl
theorem zc79 : Program.zeroC Try.prog 79 = some #[.int .u16 0, .int .i64 0] := by kernel_rfl
theorem zs79 : ((Try.prog.info? 79).bind fun i => i.zero.map fun z => (i.size, z.cells.size)) = some (2, 2) := by kernel_rfl
end FxTwccR
open FxTwccR
def FD (l : List AR) (q : UInt16) : Option Nat → Prop
  | none => fa l q = none
  | some k => k < l.length ∧ fa l q = l[k]?
def iv (r : Option Nat) : Int := r.elim (-1) fun k => (k : Int)
set_option maxHeartbeats 1000000 in
--REG (*rostrum/rostrumref19.Recorder).find : _ _ ⟨r{d}, rfl, hr{d}, rfl⟩ => (tw.find_fn _ _ _ _ _ _ _)
theorem find_fn (rb cap : Nat) (a : Option Addr) (cnt : UInt8) (l : List AR) (q : UInt16) (L : List SA) :
    Fn Try.prog 22 [pt rb 0, v16 q] (SA.blk rb #[.slice a l.length cap, v8 cnt] 72 :: SA.owns 79 2 (.slice a l.length cap) l.length (Dat.cs l) :: L)
      (fun v L' => ∃ r, v = vI (iv r) ∧ FD l q r ∧ L' = SA.blk rb #[.slice a l.length cap, v8 cnt] 72 :: SA.owns 79 2 (.slice a l.length cap) l.length (Dat.cs l) :: L) := by
  refine Fn.of (N := 26) Try.func22 rfl rfl ?_
  intro Xh
  refine TC.seq ?_
  refine TC.region ?_
  refine TL.val rfl rfl rfl (Y.assign rfl rfl) ?_
  refine TL.nil ?_
  refine TQ.next ?_
  refine TC.seq ?_
  refine TC.seq ?_
  refine TC.region ?_
  refine TL.val rfl rfl rfl (Y.move rfl rfl) ?_
  refine TL.val rfl rfl rfl (Y.nilCheck rfl rfl) ?_
  refine TL.val rfl rfl rfl (by first | exact Y.fieldAddrJ rfl fo72_0 rfl (by ((try simp only [Nat.zero_add, Nat.add_zero, Nat.mul_one, Nat.one_mul, Nat.mul_zero, Nat.zero_mul]) <;> rfl)) | exact Y.fieldAddr rfl fo72_0 rfl (by ((try simp only [Nat.zero_add, Nat.add_zero, Nat.mul_one, Nat.one_mul, Nat.mul_zero, Nat.zero_mul]) <;> rfl))) ?_
  refine TL.val rfl rfl rfl (Y.load rfl sc70 rfl (by first | exact Cel.at0 Reads.owns (by with_reducible (repeat first | apply In.here | apply In.there)) (by assumption) (by rfl) | exact Cel.at Reads.owns (by with_reducible (repeat first | apply In.here | apply In.there)) (by assumption) (by rfl) | exact Cel.datAt0 (by with_reducible (repeat first | apply In.here | apply In.there)) (by assumption) (by rfl) | exact Cel.datAt (by with_reducible (repeat first | apply In.here | apply In.there)) (by assumption) (by rfl) | exact Cel.datAtS (by with_reducible (repeat first | apply In.here | apply In.there)) (by assumption) (by rfl) | exact Cel.blk (by with_reducible (repeat first | apply In.here | apply In.there)) (by first | exact getM (d := default) (by ((try simp only [List.length_set, List.length_map, List.length_append, List.length_replicate, List.size_toArray, List.length_cons, List.length_nil, Array.size_setIfInBounds]); omega)) | rfl) | exact Cel.rblk (by with_reducible (repeat first | apply In.here | apply In.there)) (by first | exact getM (d := default) (by ((try simp only [List.length_set, List.length_map, List.length_append, List.length_replicate, List.size_toArray, List.length_cons, List.length_nil, Array.size_setIfInBounds]); omega)) | rfl) | exact Cel.rds (by with_reducible (repeat first | apply In.here | apply In.there)) (getML (d := default) (by ((try simp only [List.length_set, List.length_map, List.length_append, List.length_replicate, List.size_toArray, List.length_cons, List.length_nil, Array.size_setIfInBounds]); omega))) | exact Cel.rdsB (by with_reducible (repeat first | apply In.here | apply In.there)) (getML (d := default) (by ((try simp only [List.length_set, List.length_map, List.length_append, List.length_replicate, List.size_toArray, List.length_cons, List.length_nil, Array.size_setIfInBounds]); omega))) | exact Cel.owns (by with_reducible (repeat first | apply In.here | apply In.there)) (getML (d := default) (by ((try simp only [List.length_set, List.length_map, List.length_append, List.length_replicate, List.size_toArray, List.length_cons, List.length_nil, Array.size_setIfInBounds]); omega))) | exact Cel.reads (by assumption) (by with_reducible (repeat first | apply In.here | apply In.there)) (getML (d := default) (by ((try simp only [List.length_set, List.length_map, List.length_append, List.length_replicate, List.size_toArray, List.length_cons, List.length_nil, Array.size_setIfInBounds]); omega))) | exact Cel.rds0 (by with_reducible (repeat first | apply In.here | apply In.there)) (getML (d := default) (by ((try simp only [List.length_set, List.length_map, List.length_append, List.length_replicate, List.size_toArray, List.length_cons, List.length_nil, Array.size_setIfInBounds]); omega))) | exact Cel.owns0 (by with_reducible (repeat first | apply In.here | apply In.there)) (getML (d := default) (by ((try simp only [List.length_set, List.length_map, List.length_append, List.length_replicate, List.size_toArray, List.length_cons, List.length_nil, Array.size_setIfInBounds]); omega))))) ?_
  refine TL.val rfl rfl rfl (Y.len rfl Try.underlying70 rfl) ?_
  refine TL.val rfl rfl rfl (Y.move rfl rfl) ?_
  refine TL.nil ?_
  refine TQ.next ?_
  refine TC.block ?_
  refine TC.know (owns_cap (a := a) (n := l.length) (cap := cap) (by with_reducible (repeat first | apply In.here | apply In.there))) ?_
  rintro ⟨hc1, hc2, hlen⟩
  simp only [maxLen] at hc2
  refine TC.loopF (ι := Nat) [4] (fun k => k ≤ l.length ∧ ∀ y ∈ l.take k, y.1 ≠ q) (fun k => [(11, some (vN k))]) (fun k => []) (fun k => l.length - k) (0) (⟨by omega, fun y hy => by simp at hy⟩) ⟨rfl, trivial⟩ Pulls.nil ?_
  rintro k ⟨hk, hne⟩ F' L' rfl hL'
  simp only [List.cons_append, List.nil_append] at hL'
  subst hL'
  refine TC.seq ?_
  refine TC.region ?_
  refine TL.val rfl rfl rfl (Y.bin rfl rfl rfl (br_ltN)) ?_
  refine TL.nil ?_
  refine TQ.next ?_
  refine TC.seq ?_
  refine TC.cond rfl (fun c0 => ?_) (fun c0 => ?_)
  · try simp only [decide_eq_true_eq, decide_eq_false_iff_not, Bool.not_eq_true', Bool.not_eq_false', Bool.and_eq_true, Bool.or_eq_true, Nat.not_lt, Nat.not_le, beq_iff_eq, bne_iff_ne] at c0
    refine TC.skip ?_
    refine TQ.next ?_
    refine TC.seq ?_
    refine TC.block ?_
    refine TC.seq ?_
    refine TC.region ?_
    refine TL.val rfl rfl rfl (Y.move rfl rfl) ?_
    refine TL.val rfl rfl rfl (Y.assign rfl rfl) ?_
    refine TL.nil ?_
    refine TQ.next ?_
    refine TC.seq ?_
    refine TC.know (owns_some (n := l.length) (a := a) (by with_reducible (repeat first | apply In.here | apply In.there)) (by omega)) ?_
    rintro ⟨g, off, rfl⟩
    obtain ⟨x, hx, -⟩ := getS (l := l) (i := k) (by omega)
    obtain ⟨xq, xa⟩ := x
    refine TC.region ?_
    refine TL.val rfl rfl rfl (Y.move rfl rfl) ?_
    refine TL.val rfl rfl rfl (Y.nilCheck rfl rfl) ?_
    refine TL.val rfl rfl rfl (by first | exact Y.fieldAddrJ rfl fo72_0 rfl (by ((try simp only [Nat.zero_add, Nat.add_zero, Nat.mul_one, Nat.one_mul, Nat.mul_zero, Nat.zero_mul]) <;> rfl)) | exact Y.fieldAddr rfl fo72_0 rfl (by ((try simp only [Nat.zero_add, Nat.add_zero, Nat.mul_one, Nat.one_mul, Nat.mul_zero, Nat.zero_mul]) <;> rfl))) ?_
    refine TL.val rfl rfl rfl (Y.load rfl sc70 rfl (by first | exact Cel.at0 Reads.owns (by with_reducible (repeat first | apply In.here | apply In.there)) (by assumption) (by rfl) | exact Cel.at Reads.owns (by with_reducible (repeat first | apply In.here | apply In.there)) (by assumption) (by rfl) | exact Cel.datAt0 (by with_reducible (repeat first | apply In.here | apply In.there)) (by assumption) (by rfl) | exact Cel.datAt (by with_reducible (repeat first | apply In.here | apply In.there)) (by assumption) (by rfl) | exact Cel.datAtS (by with_reducible (repeat first | apply In.here | apply In.there)) (by assumption) (by rfl) | exact Cel.blk (by with_reducible (repeat first | apply In.here | apply In.there)) (by first | exact getM (d := default) (by ((try simp only [List.length_set, List.length_map, List.length_append, List.length_replicate, List.size_toArray, List.length_cons, List.length_nil, Array.size_setIfInBounds]); omega)) | rfl) | exact Cel.rblk (by with_reducible (repeat first | apply In.here | apply In.there)) (by first | exact getM (d := default) (by ((try simp only [List.length_set, List.length_map, List.length_append, List.length_replicate, List.size_toArray, List.length_cons, List.length_nil, Array.size_setIfInBounds]); omega)) | rfl) | exact Cel.rds (by with_reducible (repeat first | apply In.here | apply In.there)) (getML (d := default) (by ((try simp only [List.length_set, List.length_map, List.length_append, List.length_replicate, List.size_toArray, List.length_cons, List.length_nil, Array.size_setIfInBounds]); omega))) | exact Cel.rdsB (by with_reducible (repeat first | apply In.here | apply In.there)) (getML (d := default) (by ((try simp only [List.length_set, List.length_map, List.length_append, List.length_replicate, List.size_toArray, List.length_cons, List.length_nil, Array.size_setIfInBounds]); omega))) | exact Cel.owns (by with_reducible (repeat first | apply In.here | apply In.there)) (getML (d := default) (by ((try simp only [List.length_set, List.length_map, List.length_append, List.length_replicate, List.size_toArray, List.length_cons, List.length_nil, Array.size_setIfInBounds]); omega))) | exact Cel.reads (by assumption) (by with_reducible (repeat first | apply In.here | apply In.there)) (getML (d := default) (by ((try simp only [List.length_set, List.length_map, List.length_append, List.length_replicate, List.size_toArray, List.length_cons, List.length_nil, Array.size_setIfInBounds]); omega))) | exact Cel.rds0 (by with_reducible (repeat first | apply In.here | apply In.there)) (getML (d := default) (by ((try simp only [List.length_set, List.length_map, List.length_append, List.length_replicate, List.size_toArray, List.length_cons, List.length_nil, Array.size_setIfInBounds]); omega))) | exact Cel.owns0 (by with_reducible (repeat first | apply In.here | apply In.there)) (getML (d := default) (by ((try simp only [List.length_set, List.length_map, List.length_append, List.length_replicate, List.size_toArray, List.length_cons, List.length_nil, Array.size_setIfInBounds]); omega))))) ?_
    refine TL.val rfl rfl rfl (Y.move rfl rfl) ?_
    refine TL.val rfl rfl rfl (by first | exact Y.indexSlB rfl sl70 rfl rfl (by omega) (by ((try simp only [Nat.zero_add, Nat.add_zero, Nat.mul_one, Nat.one_mul, Nat.mul_zero, Nat.zero_mul]) <;> rfl)) | exact Y.indexSl rfl sl70 rfl rfl (by omega) (by ((try simp only [Nat.zero_add, Nat.add_zero, Nat.mul_one, Nat.one_mul, Nat.mul_zero, Nat.zero_mul]) <;> rfl))) ?_
    refine TL.val rfl rfl rfl (by first | exact Y.fieldAddrJ rfl fo79_0 rfl (by ((try simp only [Nat.zero_add, Nat.add_zero, Nat.mul_one, Nat.one_mul, Nat.mul_zero, Nat.zero_mul]) <;> rfl)) | exact Y.fieldAddr rfl fo79_0 rfl (by ((try simp only [Nat.zero_add, Nat.add_zero, Nat.mul_one, Nat.one_mul, Nat.mul_zero, Nat.zero_mul]) <;> rfl))) ?_
    refine TL.val rfl rfl rfl (Y.load rfl sc29 rfl (by first | exact Cel.at0 Reads.owns (by with_reducible (repeat first | apply In.here | apply In.there)) (by assumption) (by rfl) | exact Cel.at Reads.owns (by with_reducible (repeat first | apply In.here | apply In.there)) (by assumption) (by rfl) | exact Cel.datAt0 (by with_reducible (repeat first | apply In.here | apply In.there)) (by assumption) (by rfl) | exact Cel.datAt (by with_reducible (repeat first | apply In.here | apply In.there)) (by assumption) (by rfl) | exact Cel.datAtS (by with_reducible (repeat first | apply In.here | apply In.there)) (by assumption) (by rfl) | exact Cel.blk (by with_reducible (repeat first | apply In.here | apply In.there)) (by first | exact getM (d := (0 : UInt16)) (by ((try simp only [List.length_set, List.length_map, List.length_append, List.length_replicate, List.size_toArray, List.length_cons, List.length_nil, Array.size_setIfInBounds]); omega)) | rfl) | exact Cel.rblk (by with_reducible (repeat first | apply In.here | apply In.there)) (by first | exact getM (d := (0 : UInt16)) (by ((try simp only [List.length_set, List.length_map, List.length_append, List.length_replicate, List.size_toArray, List.length_cons, List.length_nil, Array.size_setIfInBounds]); omega)) | rfl) | exact Cel.rds (by with_reducible (repeat first | apply In.here | apply In.there)) (getML (d := (0 : UInt16)) (by ((try simp only [List.length_set, List.length_map, List.length_append, List.length_replicate, List.size_toArray, List.length_cons, List.length_nil, Array.size_setIfInBounds]); omega))) | exact Cel.rdsB (by with_reducible (repeat first | apply In.here | apply In.there)) (getML (d := (0 : UInt16)) (by ((try simp only [List.length_set, List.length_map, List.length_append, List.length_replicate, List.size_toArray, List.length_cons, List.length_nil, Array.size_setIfInBounds]); omega))) | exact Cel.owns (by with_reducible (repeat first | apply In.here | apply In.there)) (getML (d := (0 : UInt16)) (by ((try simp only [List.length_set, List.length_map, List.length_append, List.length_replicate, List.size_toArray, List.length_cons, List.length_nil, Array.size_setIfInBounds]); omega))) | exact Cel.reads (by assumption) (by with_reducible (repeat first | apply In.here | apply In.there)) (getML (d := (0 : UInt16)) (by ((try simp only [List.length_set, List.length_map, List.length_append, List.length_replicate, List.size_toArray, List.length_cons, List.length_nil, Array.size_setIfInBounds]); omega))) | exact Cel.rds0 (by with_reducible (repeat first | apply In.here | apply In.there)) (getML (d := (0 : UInt16)) (by ((try simp only [List.length_set, List.length_map, List.length_append, List.length_replicate, List.size_toArray, List.length_cons, List.length_nil, Array.size_setIfInBounds]); omega))) | exact Cel.owns0 (by with_reducible (repeat first | apply In.here | apply In.there)) (getML (d := (0 : UInt16)) (by ((try simp only [List.length_set, List.length_map, List.length_append, List.length_replicate, List.size_toArray, List.length_cons, List.length_nil, Array.size_setIfInBounds]); omega))))) ?_
    refine TL.val rfl rfl rfl (Y.move rfl rfl) ?_
    refine TL.val rfl rfl rfl (Y.bin rfl rfl rfl (br_eq16)) ?_
    refine TL.nil ?_
    refine TQ.next ?_
    refine TC.cond rfl (fun c1 => ?_) (fun c1 => ?_)
    · try simp only [decide_eq_true_eq, decide_eq_false_iff_not, Bool.not_eq_true', Bool.not_eq_false', Bool.and_eq_true, Bool.or_eq_true, Nat.not_lt, Nat.not_le, beq_iff_eq, bne_iff_ne] at c1
      have hfd : FD l q (some k) := ⟨by omega, (fa_at hne hx (by simpa using c1)).trans hx.symm⟩
      refine TC.seq ?_
      refine TC.region ?_
      refine TL.val rfl rfl rfl (Y.move rfl rfl) ?_
      refine TL.val rfl rfl rfl (Y.assign rfl rfl) ?_
      refine TL.nil ?_
      refine TQ.next ?_
      refine TC.ret ?_
      refine TQ.block_ret ?_
      refine TQ.then_ret ?_
      refine TQ.then_ret ?_
      refine TQ.block_ret ?_
      refine TQ.then_ret ?_
      refine TQ.retE (res1 rfl rfl) ((by first | exact ⟨some k, rfl, hfd, rfl⟩ | exact ⟨none, rfl, hfn, rfl⟩)) ?_
      exact (by (repeat first | (with_reducible apply Ent.refl) | (with_reducible apply Ent.nil) | refine Ent.cons (by first | (with_reducible (repeat first | apply Pull.here | apply Pull.there); done) | (repeat first | apply Pull.here | apply Pull.there)) ?_ | refine Ent.skip ?_))
    · try simp only [decide_eq_true_eq, decide_eq_false_iff_not, Bool.not_eq_true', Bool.not_eq_false', Bool.and_eq_true, Bool.or_eq_true, Nat.not_lt, Nat.not_le, beq_iff_eq, bne_iff_ne] at c1
      have hnx := ne_next hne hx (by simpa using c1)
      refine TC.skip ?_
      refine TQ.block_normal ?_
      refine TQ.next ?_
      refine TC.region ?_
      refine TL.val rfl rfl rfl (Y.bin rfl rfl rfl (br_addN (n := 1) (by omega))) ?_
      refine TL.val rfl rfl rfl (Y.move rfl rfl) ?_
      refine TL.nil ?_
      refine TQ.loopF (k + 1) (⟨by omega, hnx⟩) (by omega) ⟨rfl, trivial⟩ (by (repeat first | apply Grow.refl | apply Grow.step | apply Grow.app)) ?_ ?_ ?_
      · kernel_rfl
      · rfl
      · simp only [List.cons_append, List.nil_append]
        exact (by (repeat first | (with_reducible apply Ent.refl) | (with_reducible apply Ent.nil) | refine Ent.cons (by first | (with_reducible (repeat first | apply Pull.here | apply Pull.there); done) | (repeat first | apply Pull.here | apply Pull.there)) ?_ | refine Ent.skip ?_))
  · try simp only [decide_eq_true_eq, decide_eq_false_iff_not, Bool.not_eq_true', Bool.not_eq_false', Bool.and_eq_true, Bool.or_eq_true, Nat.not_lt, Nat.not_le, beq_iff_eq, bne_iff_ne] at c0
    obtain rfl : k = l.length := by omega
    rw [List.take_length] at hne
    have hfn : FD l q none := fa_none hne
    refine TC.exit ?_
    refine TQ.then_exit ?_
    refine TQ.then_exit ?_
    refine TQ.block_exit ?_
    refine TQ.next ?_
    refine TC.seq ?_
    refine TC.region ?_
    refine TL.val rfl rfl rfl (Y.assign rfl rfl) ?_
    refine TL.nil ?_
    refine TQ.next ?_
    refine TC.ret ?_
    refine TQ.retE (res1 rfl rfl) ((by first | exact ⟨some k, rfl, hfd, rfl⟩ | exact ⟨none, rfl, hfn, rfl⟩)) ?_
    exact (by (repeat first | (with_reducible apply Ent.refl) | (with_reducible apply Ent.nil) | refine Ent.cons (by first | (with_reducible (repeat first | apply Pull.here | apply Pull.there); done) | (repeat first | apply Pull.here | apply Pull.there)) ?_ | refine Ent.skip ?_))
theorem tl_cs (m : List AR) : ([] : List Value) ++ ((Dat.cs m).drop (1 * 2)).take ((m.length - 1) * 2) = Dat.cs (m.drop 1) := by
  rw [rga.cs_drop, List.nil_append, List.take_of_length_le (by rw [List.length_drop, Dat.cs_len]; show m.length * 2 - 1 * 2 ≤ _; omega)]
  rfl
set_option maxHeartbeats 1000000 in
--REG (*rostrum/rostrumref19.Recorder).Note : _ _ ⟨a{d}, c{d}, rfl⟩ => (tw.rNote_fn _ _ _ _ _ {1} {2} (by omega) _)
theorem rNote_fn (rb cap : Nat) (a : Option Addr) (cnt : UInt8) (l : List AR) (q : UInt16) (now : Int) (hl : l.length ≤ 64) (L : List SA) :
    Fn Try.prog 10 [pt rb 0, v16 q, vI now] (SA.blk rb #[.slice a l.length cap, v8 cnt] 72 :: SA.owns 79 2 (.slice a l.length cap) l.length (Dat.cs l) :: L)
      (fun _ L' => ∃ a' c', L' = SA.blk rb #[.slice a' (nt l q now).length c', v8 cnt] 72 :: SA.owns 79 2 (.slice a' (nt l q now).length c') (nt l q now).length (Dat.cs (nt l q now)) :: L) := by
  refine Fn.of (N := 40) Try.func10 rfl rfl ?_
  intro Xh
  refine TC.seq ?_
  refine TC.seq ?_
  refine TC.region ?_
  refine TL.val rfl rfl rfl (Y.move rfl rfl) ?_
  refine TL.val rfl rfl rfl (Y.move rfl rfl) ?_
  refine TL.eff rfl rfl rfl (X.call rfl Try.func22 (by kernel_rfl) rfl rfl (Fn.preE (by repeat first | (with_reducible apply Ent.refl) | (apply Ent.cons; case h => first | (with_reducible (repeat first | apply Pull.here | apply Pull.there); done) | (repeat first | apply Pull.here | apply Pull.there))) (tw.find_fn _ _ _ _ _ _ _))) ?_
  rintro _ _ ⟨r8, rfl, hr8, rfl⟩
  refine TL.val rfl rfl rfl (Y.bin rfl rfl rfl (br_geI (n := 0))) ?_
  refine TL.nil ?_
  refine TQ.next ?_
  refine TC.cond rfl (fun c0 => ?_) (fun c0 => ?_)
  · try simp only [decide_eq_true_eq, decide_eq_false_iff_not, Bool.not_eq_true', Bool.not_eq_false', Bool.and_eq_true, Bool.or_eq_true, Nat.not_lt, Nat.not_le, beq_iff_eq, bne_iff_ne] at c0
    have hn : nt l q now = l := by cases r8 with
      | none => simp [iv] at c0
      | some k => rw [nt, wh, hr8.2, (getS hr8.1).choose_spec.1]; rfl
    refine TC.ret ?_
    refine TQ.then_ret ?_
    refine TQ.retE (res0 rfl) ((by first | exact ⟨a37, c37, by rw [hr]⟩ | exact ⟨a21, c21, by rw [hr]⟩ | exact ⟨a, cap, by rw [hn]⟩)) ?_
    exact (by (repeat first | (with_reducible apply Ent.refl) | (with_reducible apply Ent.nil) | refine Ent.cons (by first | (with_reducible (repeat first | apply Pull.here | apply Pull.there); done) | (repeat first | apply Pull.here | apply Pull.there)) ?_ | refine Ent.skip ?_))
  · try simp only [decide_eq_true_eq, decide_eq_false_iff_not, Bool.not_eq_true', Bool.not_eq_false', Bool.and_eq_true, Bool.or_eq_true, Nat.not_lt, Nat.not_le, beq_iff_eq, bne_iff_ne] at c0
    have hn : nt l q now = rga.rput 64 l (q, nw now) := by cases r8 with
      | none => rw [nt, wh_none hr8]; rfl
      | some k => simp [iv] at c0
    refine TC.skip ?_
    refine TQ.next ?_
    refine TC.seq ?_
    refine TC.region ?_
    refine TL.val rfl rfl rfl (Y.move rfl rfl) ?_
    refine TL.val rfl rfl rfl (Y.move rfl rfl) ?_
    refine TL.val rfl rfl rfl (Y.nilCheck rfl rfl) ?_
    refine TL.val rfl rfl rfl (by first | exact Y.fieldAddrJ rfl fo72_0 rfl (by ((try simp only [Nat.zero_add, Nat.add_zero, Nat.mul_one, Nat.one_mul, Nat.mul_zero, Nat.zero_mul]) <;> rfl)) | exact Y.fieldAddr rfl fo72_0 rfl (by ((try simp only [Nat.zero_add, Nat.add_zero, Nat.mul_one, Nat.one_mul, Nat.mul_zero, Nat.zero_mul]) <;> rfl))) ?_
    refine TL.val rfl rfl rfl (Y.load rfl sc70 rfl (by first | exact Cel.at0 Reads.owns (by with_reducible (repeat first | apply In.here | apply In.there)) (by assumption) (by rfl) | exact Cel.at Reads.owns (by with_reducible (repeat first | apply In.here | apply In.there)) (by assumption) (by rfl) | exact Cel.datAt0 (by with_reducible (repeat first | apply In.here | apply In.there)) (by assumption) (by rfl) | exact Cel.datAt (by with_reducible (repeat first | apply In.here | apply In.there)) (by assumption) (by rfl) | exact Cel.datAtS (by with_reducible (repeat first | apply In.here | apply In.there)) (by assumption) (by rfl) | exact Cel.blk (by with_reducible (repeat first | apply In.here | apply In.there)) (by first | exact getM (d := default) (by ((try simp only [List.length_set, List.length_map, List.length_append, List.length_replicate, List.size_toArray, List.length_cons, List.length_nil, Array.size_setIfInBounds]); omega)) | rfl) | exact Cel.rblk (by with_reducible (repeat first | apply In.here | apply In.there)) (by first | exact getM (d := default) (by ((try simp only [List.length_set, List.length_map, List.length_append, List.length_replicate, List.size_toArray, List.length_cons, List.length_nil, Array.size_setIfInBounds]); omega)) | rfl) | exact Cel.rds (by with_reducible (repeat first | apply In.here | apply In.there)) (getML (d := default) (by ((try simp only [List.length_set, List.length_map, List.length_append, List.length_replicate, List.size_toArray, List.length_cons, List.length_nil, Array.size_setIfInBounds]); omega))) | exact Cel.rdsB (by with_reducible (repeat first | apply In.here | apply In.there)) (getML (d := default) (by ((try simp only [List.length_set, List.length_map, List.length_append, List.length_replicate, List.size_toArray, List.length_cons, List.length_nil, Array.size_setIfInBounds]); omega))) | exact Cel.owns (by with_reducible (repeat first | apply In.here | apply In.there)) (getML (d := default) (by ((try simp only [List.length_set, List.length_map, List.length_append, List.length_replicate, List.size_toArray, List.length_cons, List.length_nil, Array.size_setIfInBounds]); omega))) | exact Cel.reads (by assumption) (by with_reducible (repeat first | apply In.here | apply In.there)) (getML (d := default) (by ((try simp only [List.length_set, List.length_map, List.length_append, List.length_replicate, List.size_toArray, List.length_cons, List.length_nil, Array.size_setIfInBounds]); omega))) | exact Cel.rds0 (by with_reducible (repeat first | apply In.here | apply In.there)) (getML (d := default) (by ((try simp only [List.length_set, List.length_map, List.length_append, List.length_replicate, List.size_toArray, List.length_cons, List.length_nil, Array.size_setIfInBounds]); omega))) | exact Cel.owns0 (by with_reducible (repeat first | apply In.here | apply In.there)) (getML (d := default) (by ((try simp only [List.length_set, List.length_map, List.length_append, List.length_replicate, List.size_toArray, List.length_cons, List.length_nil, Array.size_setIfInBounds]); omega))))) ?_
    refine TL.val rfl rfl rfl (Y.move rfl rfl) ?_
    refine TL.val rfl rfl rfl (Y.move rfl rfl) ?_
    refine TL.val rfl rfl rfl (Y.maxI (n := 0) rfl rfl rfl) ?_
    refine TL.val rfl rfl rfl (Y.minI (n := 1099511627776) rfl rfl rfl) ?_
    refine TL.val rfl rfl rfl (Y.buildS rfl rfl pl79 zc79 rfl) ?_
    refine TL.as (.agg (Dat.c ((q, nw now) : AR)).toArray) (by (rw [nw_v]; rfl)) ?_
    refine TL.eff rfl rfl rfl (X.litD (sz := 2) ((q, nw now) : AR) rfl Try.underlying70 (by kernel_rfl) rfl rfl (by decide)) ?_
    rintro _ _ ⟨g20, rfl, rfl⟩
    refine TL.eff rfl rfl rfl (X.appendS rfl el70 rfl (by first | (with_reducible (repeat first | apply Pull.here | apply Pull.there); done) | (repeat first | apply Pull.here | apply Pull.there)) rfl (by first | exact Src.owns Try.underlying70 (by with_reducible (repeat first | apply In.here | apply In.there)) | exact Src.rds Try.underlying70 (by with_reducible (repeat first | apply In.here | apply In.there)) | exact Src.reads (by assumption) Try.underlying70 (by with_reducible (repeat first | apply In.here | apply In.there))) (by simp only [maxLen]; omega) (by omega)) ?_
    rintro _ _ ⟨a21, c21, rfl, rfl⟩
    rw [show Dat.cs l ++ Dat.c ((q, nw now) : AR) = Dat.cs (l ++ [(q, nw now)]) by rw [Dat.cs_app, Dat.cs_one], show l.length + 1 = (l ++ [(q, nw now)]).length by simp]
    refine TL.val rfl rfl rfl (Y.nilCheck rfl rfl) ?_
    refine TL.val rfl rfl rfl (by first | exact Y.fieldAddrJ rfl fo72_0 rfl (by ((try simp only [Nat.zero_add, Nat.add_zero, Nat.mul_one, Nat.one_mul, Nat.mul_zero, Nat.zero_mul]) <;> rfl)) | exact Y.fieldAddr rfl fo72_0 rfl (by ((try simp only [Nat.zero_add, Nat.add_zero, Nat.mul_one, Nat.one_mul, Nat.mul_zero, Nat.zero_mul]) <;> rfl))) ?_
    refine TL.eff0 rfl rfl (by first | exact X.store rfl sz70 rfl rfl rfl (by first | (with_reducible (repeat first | apply Pull.here | apply Pull.there); done) | (repeat first | apply Pull.here | apply Pull.there)) (by ((try simp only [List.length_set, List.length_map, List.length_append, List.length_replicate, List.size_toArray, List.length_cons, List.length_nil, Array.size_setIfInBounds]); omega)) (by first | exact setM | rfl) | exact X.storeOwn rfl sz70 rfl (Nat.zero_add _).symm rfl rfl (by first | (with_reducible (repeat first | apply Pull.here | apply Pull.there); done) | (repeat first | apply Pull.here | apply Pull.there)) (by ((try simp only [List.length_set, List.length_map, List.length_append, List.length_replicate, List.size_toArray, List.length_cons, List.length_nil, Array.size_setIfInBounds]); omega)) (by first | exact setML | rfl) | exact X.storeOwn rfl sz70 rfl rfl rfl rfl (by first | (with_reducible (repeat first | apply Pull.here | apply Pull.there); done) | (repeat first | apply Pull.here | apply Pull.there)) (by ((try simp only [List.length_set, List.length_map, List.length_append, List.length_replicate, List.size_toArray, List.length_cons, List.length_nil, Array.size_setIfInBounds]); omega)) (by first | exact setML | rfl)) ?_
    rintro _ _ rfl
    rw [show (#[.slice a l.length cap, v8 cnt] : Array Value).setIfInBounds 0 (.slice a21 (l ++ [(q, nw now)]).length c21) = #[.slice a21 (l ++ [(q, nw now)]).length c21, v8 cnt] from rfl]
    have hll : (l ++ [(q, nw now)]).length = l.length + 1 := by simp
    refine TL.nil ?_
    refine TQ.next ?_
    refine TC.seq ?_
    refine TC.region ?_
    refine TL.val rfl rfl rfl (Y.move rfl rfl) ?_
    refine TL.val rfl rfl rfl (Y.nilCheck rfl rfl) ?_
    refine TL.val rfl rfl rfl (by first | exact Y.fieldAddrJ rfl fo72_0 rfl (by ((try simp only [Nat.zero_add, Nat.add_zero, Nat.mul_one, Nat.one_mul, Nat.mul_zero, Nat.zero_mul]) <;> rfl)) | exact Y.fieldAddr rfl fo72_0 rfl (by ((try simp only [Nat.zero_add, Nat.add_zero, Nat.mul_one, Nat.one_mul, Nat.mul_zero, Nat.zero_mul]) <;> rfl))) ?_
    refine TL.val rfl rfl rfl (Y.load rfl sc70 rfl (by first | exact Cel.at0 Reads.owns (by with_reducible (repeat first | apply In.here | apply In.there)) (by assumption) (by rfl) | exact Cel.at Reads.owns (by with_reducible (repeat first | apply In.here | apply In.there)) (by assumption) (by rfl) | exact Cel.datAt0 (by with_reducible (repeat first | apply In.here | apply In.there)) (by assumption) (by rfl) | exact Cel.datAt (by with_reducible (repeat first | apply In.here | apply In.there)) (by assumption) (by rfl) | exact Cel.datAtS (by with_reducible (repeat first | apply In.here | apply In.there)) (by assumption) (by rfl) | exact Cel.blk (by with_reducible (repeat first | apply In.here | apply In.there)) (by first | exact getM (d := default) (by ((try simp only [List.length_set, List.length_map, List.length_append, List.length_replicate, List.size_toArray, List.length_cons, List.length_nil, Array.size_setIfInBounds]); omega)) | rfl) | exact Cel.rblk (by with_reducible (repeat first | apply In.here | apply In.there)) (by first | exact getM (d := default) (by ((try simp only [List.length_set, List.length_map, List.length_append, List.length_replicate, List.size_toArray, List.length_cons, List.length_nil, Array.size_setIfInBounds]); omega)) | rfl) | exact Cel.rds (by with_reducible (repeat first | apply In.here | apply In.there)) (getML (d := default) (by ((try simp only [List.length_set, List.length_map, List.length_append, List.length_replicate, List.size_toArray, List.length_cons, List.length_nil, Array.size_setIfInBounds]); omega))) | exact Cel.rdsB (by with_reducible (repeat first | apply In.here | apply In.there)) (getML (d := default) (by ((try simp only [List.length_set, List.length_map, List.length_append, List.length_replicate, List.size_toArray, List.length_cons, List.length_nil, Array.size_setIfInBounds]); omega))) | exact Cel.owns (by with_reducible (repeat first | apply In.here | apply In.there)) (getML (d := default) (by ((try simp only [List.length_set, List.length_map, List.length_append, List.length_replicate, List.size_toArray, List.length_cons, List.length_nil, Array.size_setIfInBounds]); omega))) | exact Cel.reads (by assumption) (by with_reducible (repeat first | apply In.here | apply In.there)) (getML (d := default) (by ((try simp only [List.length_set, List.length_map, List.length_append, List.length_replicate, List.size_toArray, List.length_cons, List.length_nil, Array.size_setIfInBounds]); omega))) | exact Cel.rds0 (by with_reducible (repeat first | apply In.here | apply In.there)) (getML (d := default) (by ((try simp only [List.length_set, List.length_map, List.length_append, List.length_replicate, List.size_toArray, List.length_cons, List.length_nil, Array.size_setIfInBounds]); omega))) | exact Cel.owns0 (by with_reducible (repeat first | apply In.here | apply In.there)) (getML (d := default) (by ((try simp only [List.length_set, List.length_map, List.length_append, List.length_replicate, List.size_toArray, List.length_cons, List.length_nil, Array.size_setIfInBounds]); omega))))) ?_
    refine TL.val rfl rfl rfl (Y.len rfl Try.underlying70 rfl) ?_
    refine TL.val rfl rfl rfl (Y.bin rfl rfl rfl (br_gtN (n := 64))) ?_
    refine TL.nil ?_
    refine TQ.next ?_
    refine TC.cond rfl (fun c1 => ?_) (fun c1 => ?_)
    · try simp only [decide_eq_true_eq, decide_eq_false_iff_not, Bool.not_eq_true', Bool.not_eq_false', Bool.and_eq_true, Bool.or_eq_true, Nat.not_lt, Nat.not_le, beq_iff_eq, bne_iff_ne] at c1
      have hr : nt l q now = (l ++ [(q, nw now)]).drop 1 := by rw [hn, rga.rput, if_neg (by simp at c1; omega)]
      refine TC.region ?_
      refine TL.val rfl rfl rfl (Y.move rfl rfl) ?_
      refine TL.eff rfl rfl rfl (X.litA (bytes := 0) (z := .nilFunc) (cells := []) rfl Try.underlying70 zs79 rfl rfl rfl (by decide) (by decide) (by decide) rfl rfl rfl) ?_
      rintro _ _ ⟨g31, rfl, rfl⟩
      refine TL.val rfl rfl rfl (Y.move rfl rfl) ?_
      refine TL.val rfl rfl rfl (Y.nilCheck rfl rfl) ?_
      refine TL.val rfl rfl rfl (by first | exact Y.fieldAddrJ rfl fo72_0 rfl (by ((try simp only [Nat.zero_add, Nat.add_zero, Nat.mul_one, Nat.one_mul, Nat.mul_zero, Nat.zero_mul]) <;> rfl)) | exact Y.fieldAddr rfl fo72_0 rfl (by ((try simp only [Nat.zero_add, Nat.add_zero, Nat.mul_one, Nat.one_mul, Nat.mul_zero, Nat.zero_mul]) <;> rfl))) ?_
      refine TL.val rfl rfl rfl (Y.load rfl sc70 rfl (by first | exact Cel.at0 Reads.owns (by with_reducible (repeat first | apply In.here | apply In.there)) (by assumption) (by rfl) | exact Cel.at Reads.owns (by with_reducible (repeat first | apply In.here | apply In.there)) (by assumption) (by rfl) | exact Cel.datAt0 (by with_reducible (repeat first | apply In.here | apply In.there)) (by assumption) (by rfl) | exact Cel.datAt (by with_reducible (repeat first | apply In.here | apply In.there)) (by assumption) (by rfl) | exact Cel.datAtS (by with_reducible (repeat first | apply In.here | apply In.there)) (by assumption) (by rfl) | exact Cel.blk (by with_reducible (repeat first | apply In.here | apply In.there)) (by first | exact getM (d := default) (by ((try simp only [List.length_set, List.length_map, List.length_append, List.length_replicate, List.size_toArray, List.length_cons, List.length_nil, Array.size_setIfInBounds]); omega)) | rfl) | exact Cel.rblk (by with_reducible (repeat first | apply In.here | apply In.there)) (by first | exact getM (d := default) (by ((try simp only [List.length_set, List.length_map, List.length_append, List.length_replicate, List.size_toArray, List.length_cons, List.length_nil, Array.size_setIfInBounds]); omega)) | rfl) | exact Cel.rds (by with_reducible (repeat first | apply In.here | apply In.there)) (getML (d := default) (by ((try simp only [List.length_set, List.length_map, List.length_append, List.length_replicate, List.size_toArray, List.length_cons, List.length_nil, Array.size_setIfInBounds]); omega))) | exact Cel.rdsB (by with_reducible (repeat first | apply In.here | apply In.there)) (getML (d := default) (by ((try simp only [List.length_set, List.length_map, List.length_append, List.length_replicate, List.size_toArray, List.length_cons, List.length_nil, Array.size_setIfInBounds]); omega))) | exact Cel.owns (by with_reducible (repeat first | apply In.here | apply In.there)) (getML (d := default) (by ((try simp only [List.length_set, List.length_map, List.length_append, List.length_replicate, List.size_toArray, List.length_cons, List.length_nil, Array.size_setIfInBounds]); omega))) | exact Cel.reads (by assumption) (by with_reducible (repeat first | apply In.here | apply In.there)) (getML (d := default) (by ((try simp only [List.length_set, List.length_map, List.length_append, List.length_replicate, List.size_toArray, List.length_cons, List.length_nil, Array.size_setIfInBounds]); omega))) | exact Cel.rds0 (by with_reducible (repeat first | apply In.here | apply In.there)) (getML (d := default) (by ((try simp only [List.length_set, List.length_map, List.length_append, List.length_replicate, List.size_toArray, List.length_cons, List.length_nil, Array.size_setIfInBounds]); omega))) | exact Cel.owns0 (by with_reducible (repeat first | apply In.here | apply In.there)) (getML (d := default) (by ((try simp only [List.length_set, List.length_map, List.length_append, List.length_replicate, List.size_toArray, List.length_cons, List.length_nil, Array.size_setIfInBounds]); omega))))) ?_
      refine TL.val rfl rfl rfl (Y.sliceLo (k := 1) rfl Try.underlying70 sz79 rfl rfl (by omega)) ?_
      refine TL.eff rfl rfl rfl (X.appendS rfl el70 rfl (by first | (with_reducible (repeat first | apply Pull.here | apply Pull.there); done) | (repeat first | apply Pull.here | apply Pull.there)) rfl (Src.cut Reads.owns Try.underlying70 (by with_reducible (repeat first | apply In.here | apply In.there)) (by omega) (by omega)) (by simp only [maxLen]; omega) (by omega)) ?_
      rintro _ _ ⟨a37, c37, rfl, rfl⟩
      rw [tl_cs (l ++ [(q, nw now)]), show 0 + ((l ++ [(q, nw now)]).length - 1) = ((l ++ [(q, nw now)]).drop 1).length by simp]
      refine TL.val rfl rfl rfl (Y.nilCheck rfl rfl) ?_
      refine TL.val rfl rfl rfl (by first | exact Y.fieldAddrJ rfl fo72_0 rfl (by ((try simp only [Nat.zero_add, Nat.add_zero, Nat.mul_one, Nat.one_mul, Nat.mul_zero, Nat.zero_mul]) <;> rfl)) | exact Y.fieldAddr rfl fo72_0 rfl (by ((try simp only [Nat.zero_add, Nat.add_zero, Nat.mul_one, Nat.one_mul, Nat.mul_zero, Nat.zero_mul]) <;> rfl))) ?_
      refine TL.eff0 rfl rfl (by first | exact X.store rfl sz70 rfl rfl rfl (by first | (with_reducible (repeat first | apply Pull.here | apply Pull.there); done) | (repeat first | apply Pull.here | apply Pull.there)) (by ((try simp only [List.length_set, List.length_map, List.length_append, List.length_replicate, List.size_toArray, List.length_cons, List.length_nil, Array.size_setIfInBounds]); omega)) (by first | exact setM | rfl) | exact X.storeOwn rfl sz70 rfl (Nat.zero_add _).symm rfl rfl (by first | (with_reducible (repeat first | apply Pull.here | apply Pull.there); done) | (repeat first | apply Pull.here | apply Pull.there)) (by ((try simp only [List.length_set, List.length_map, List.length_append, List.length_replicate, List.size_toArray, List.length_cons, List.length_nil, Array.size_setIfInBounds]); omega)) (by first | exact setML | rfl) | exact X.storeOwn rfl sz70 rfl rfl rfl rfl (by first | (with_reducible (repeat first | apply Pull.here | apply Pull.there); done) | (repeat first | apply Pull.here | apply Pull.there)) (by ((try simp only [List.length_set, List.length_map, List.length_append, List.length_replicate, List.size_toArray, List.length_cons, List.length_nil, Array.size_setIfInBounds]); omega)) (by first | exact setML | rfl)) ?_
      rintro _ _ rfl
      rw [show (#[.slice a21 (l ++ [(q, nw now)]).length c21, v8 cnt] : Array Value).setIfInBounds 0 (.slice a37 ((l ++ [(q, nw now)]).drop 1).length c37) = #[.slice a37 ((l ++ [(q, nw now)]).drop 1).length c37, v8 cnt] from rfl]
      refine TL.nil ?_
      refine TQ.endE (res0 rfl) ((by first | exact ⟨a37, c37, by rw [hr]⟩ | exact ⟨a21, c21, by rw [hr]⟩ | exact ⟨a, cap, by rw [hn]⟩)) ?_
      exact (by (repeat first | (with_reducible apply Ent.refl) | (with_reducible apply Ent.nil) | refine Ent.cons (by first | (with_reducible (repeat first | apply Pull.here | apply Pull.there); done) | (repeat first | apply Pull.here | apply Pull.there)) ?_ | refine Ent.skip ?_))
    · try simp only [decide_eq_true_eq, decide_eq_false_iff_not, Bool.not_eq_true', Bool.not_eq_false', Bool.and_eq_true, Bool.or_eq_true, Nat.not_lt, Nat.not_le, beq_iff_eq, bne_iff_ne] at c1
      have hr : nt l q now = l ++ [(q, nw now)] := by rw [hn, rga.rput, if_pos (by simp at c1; omega)]
      refine TC.skip ?_
      refine TQ.endE (res0 rfl) ((by first | exact ⟨a37, c37, by rw [hr]⟩ | exact ⟨a21, c21, by rw [hr]⟩ | exact ⟨a, cap, by rw [hn]⟩)) ?_
      exact (by (repeat first | (with_reducible apply Ent.refl) | (with_reducible apply Ent.nil) | refine Ent.cons (by first | (with_reducible (repeat first | apply Pull.here | apply Pull.there); done) | (repeat first | apply Pull.here | apply Pull.there)) ?_ | refine Ent.skip ?_))
--REG rostrum/rostrumref19.NewRecorder : _ _ ⟨r{d}, rfl, rfl⟩ => (tw.rNew_fn _)
theorem rNew_fn (L : List SA) : Fn Try.prog 8 [] L
      (fun v L' => ∃ r, v = pt r 0 ∧ L' = SA.blk r #[.slice none ([] : List AR).length 0, v8 0] 72 :: SA.owns 79 2 (.slice none ([] : List AR).length 0) ([] : List AR).length (Dat.cs ([] : List AR)) :: L) := by
  refine Fn.of (N := 3) Try.func8 rfl rfl ?_
  intro Xh
  refine TC.to (Ent.nilOwn 79 2) ?_
  refine TC.seq ?_
  refine TC.region ?_
  refine TL.val rfl rfl rfl (Y.assign rfl rfl) ?_
  refine TL.nil ?_
  refine TQ.next ?_
  refine TC.seq ?_
  refine TC.region ?_
  refine TL.val rfl rfl rfl (Y.buildS rfl rfl pl72 zc72 rfl) ?_
  refine TL.eff rfl rfl rfl (X.boxA rfl rfl) ?_
  rintro _ _ ⟨b2, rfl, rfl⟩
  refine TL.val rfl rfl rfl (Y.assign rfl rfl) ?_
  refine TL.nil ?_
  refine TQ.next ?_
  refine TC.ret ?_
  refine TQ.retE (res1 rfl rfl) (⟨b2, rfl, rfl⟩) ?_
  exact (by (repeat first | (with_reducible apply Ent.refl) | (with_reducible apply Ent.nil) | refine Ent.cons (by first | (with_reducible (repeat first | apply Pull.here | apply Pull.there); done) | (repeat first | apply Pull.here | apply Pull.there)) ?_ | refine Ent.skip ?_))
end tw
end Go.Proofs.Ythamkpjiecigjaa
