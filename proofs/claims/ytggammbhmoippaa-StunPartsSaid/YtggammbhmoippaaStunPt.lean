/- Find, Mapped, ReadMapped, Failure, in both texts. -/
import Derived.Test.YtggammbhmoippaaStunSame
namespace Go.Proofs.Ytggammbhmoippaa
set_option linter.unusedVariables false
set_option linter.unusedSimpArgs false
open Go.RowKit
namespace stun
open wr (be16 be32)
open r1 (be2 be4 be2_len be4_len)
open rd (rdB rdL rdV num num1)
namespace FxStunPt
set_option maxRecDepth 100000
theorem ag22 : Program.aggN Try.prog 22 = some 12 := by kernel_rfl
theorem ag25 : Program.aggN Try.prog 25 = some 15 := by kernel_rfl
theorem ag34 : Program.aggN Try.prog 34 = some 15 := by kernel_rfl
theorem ag47 : Program.aggN Try.prog 47 = some 2 := by kernel_rfl
theorem ag73 : Program.aggN Try.prog 73 = some 2 := by kernel_rfl
theorem el27 : Elt Try.prog 27 5 1 1 (.int .u8 0) := ⟨Try.underlying27, by kernel_rfl, rfl, by decide, by simp [Value.cells, Value.oneCell']⟩
theorem el69 : Elt Try.prog 69 5 1 1 (.int .u8 0) := ⟨Try.underlying69, by kernel_rfl, rfl, by decide, by simp [Value.cells, Value.oneCell']⟩
theorem el89 : Elt Try.prog 89 27 1 24 (.slice none 0 0) := ⟨Try.underlying89, by kernel_rfl, rfl, by decide, by simp [Value.cells, Value.oneCell']⟩
theorem fo25_1 : Program.fieldOff Try.prog 25 1 = some 1 := by kernel_rfl
theorem fo25_2 : Program.fieldOff Try.prog 25 2 = some 2 := by kernel_rfl
theorem fo25_3 : Program.fieldOff Try.prog 25 3 = some 14 := by kernel_rfl
theorem fo34_1 : Program.fieldOff Try.prog 34 1 = some 1 := by kernel_rfl
theorem fo34_2 : Program.fieldOff Try.prog 34 2 = some 2 := by kernel_rfl
theorem fo34_3 : Program.fieldOff Try.prog 34 3 = some 14 := by kernel_rfl
theorem fo47_0 : Program.fieldOff Try.prog 47 0 = some 0 := by kernel_rfl
theorem fo47_1 : Program.fieldOff Try.prog 47 1 = some 1 := by kernel_rfl
theorem fo65_0 : Program.fieldOff Try.prog 65 0 = some 0 := by kernel_rfl
theorem fo65_1 : Program.fieldOff Try.prog 65 1 = some 1 := by kernel_rfl
theorem fo73_0 : Program.fieldOff Try.prog 73 0 = some 0 := by kernel_rfl
theorem fo73_1 : Program.fieldOff Try.prog 73 1 = some 1 := by kernel_rfl
theorem pl25 : Program.places Try.prog 25 = some [(0, 1), (1, 1), (2, 12), (14, 1)] := by kernel_rfl
theorem pl34 : Program.places Try.prog 34 = some [(0, 1), (1, 1), (2, 12), (14, 1)] := by kernel_rfl
theorem pl47 : Program.places Try.prog 47 = some [(0, 1), (1, 1)] := by kernel_rfl
theorem pl65 : Program.places Try.prog 65 = some [(0, 1), (1, 1)] := by kernel_rfl
theorem pl73 : Program.places Try.prog 73 = some [(0, 1), (1, 1)] := by kernel_rfl
theorem sc23 : Program.isSc Try.prog 23 = true := by kernel_rfl
theorem sc27 : Program.isSc Try.prog 27 = true := by kernel_rfl
theorem sc3 : Program.isSc Try.prog 3 = true := by kernel_rfl
theorem sc32 : Program.isSc Try.prog 32 = true := by kernel_rfl
theorem sc44 : Program.isSc Try.prog 44 = true := by kernel_rfl
theorem sc45 : Program.isSc Try.prog 45 = true := by kernel_rfl
theorem sc5 : Program.isSc Try.prog 5 = true := by kernel_rfl
theorem sc69 : Program.isSc Try.prog 69 = true := by kernel_rfl
theorem sl23 : Program.slI Try.prog 23 = some 2 := by kernel_rfl
theorem sl27 : Program.slI Try.prog 27 = some 1 := by kernel_rfl
theorem sl32 : Program.slI Try.prog 32 = some 2 := by kernel_rfl
theorem sz47 : (Try.prog.info? 47).map (·.size) = some 2 := by kernel_rfl
theorem sz5 : (Try.prog.info? 5).map (·.size) = some 1 := by kernel_rfl
theorem sz69 : (Try.prog.info? 69).map (·.size) = some 1 := by kernel_rfl
theorem sz73 : (Try.prog.info? 73).map (·.size) = some 2 := by kernel_rfl
theorem zc25 : Program.zeroC Try.prog 25 = some #[.int .i64 0, .int .i64 0, .int .u8 0, .int .u8 0, .int .u8 0, .int .u8 0, .int .u8 0, .int .u8 0, .int .u8 0, .int .u8 0, .int .u8 0, .int .u8 0, .int .u8 0, .int .u8 0, .slice none 0 0] := by kernel_rfl
theorem zc34 : Program.zeroC Try.prog 34 = some #[.int .i64 0, .int .i64 0, .int .u8 0, .int .u8 0, .int .u8 0, .int .u8 0, .int .u8 0, .int .u8 0, .int .u8 0, .int .u8 0, .int .u8 0, .int .u8 0, .int .u8 0, .int .u8 0, .slice none 0 0] := by kernel_rfl
theorem zc47 : Program.zeroC Try.prog 47 = some #[.int .u32 0, .int .u16 0] := by kernel_rfl
theorem zc65 : Program.zeroC Try.prog 65 = some #[.int .u16 0, .slice none 0 0] := by kernel_rfl
theorem zc69 : Program.zeroC Try.prog 69 = some #[.slice none 0 0] := by kernel_rfl
theorem zc73 : Program.zeroC Try.prog 73 = some #[.int .u16 0, .slice none 0 0] := by kernel_rfl
theorem zs65 : ((Try.prog.info? 65).bind fun i => i.zero.map fun z => (i.size, z.cells.size)) = some (2, 2) := by kernel_rfl
theorem zs73 : ((Try.prog.info? 73).bind fun i => i.zero.map fun z => (i.size, z.cells.size)) = some (2, 2) := by kernel_rfl
end FxStunPt
open FxStunPt
def findP (xs : List PA) (k : UInt16) : Option PA := xs.find? fun p => p.1 == k
def fv : Option PA → List UInt8
  | some p => p.2
  | none => []
def fo : Option PA → Bool
  | some _ => true
  | none => false
theorem find_hit {xs : List PA} {k : UInt16} {i : Nat} {x : PA} (h : findP (xs.take i) k = none) (hx : xs[i]? = some x) (hk : x.1 = k) : findP xs k = some x := by
  have hi := (List.getElem?_eq_some_iff.1 hx).1
  have e : xs = xs.take i ++ (x :: xs.drop (i + 1)) := by
    rw [← (List.getElem?_eq_some_iff.1 hx).2, List.getElem_cons_drop, List.take_append_drop]
  unfold findP at h ⊢
  rw [e, List.find?_append, h]
  simp [hk]
theorem find_miss {xs : List PA} {k : UInt16} {i : Nat} {x : PA} (h : findP (xs.take i) k = none) (hx : xs[i]? = some x) (hk : (x.1 == k) = false) : findP (xs.take (i + 1)) k = none := by
  unfold findP at h ⊢
  rw [List.take_add_one, hx, List.find?_append, h]
  simp [hk]
set_option maxHeartbeats 1000000 in
--REG rostrum/stun.Find : _ _ ⟨fa{d}, fc{d}, rfl, rfl⟩ => (stun.Find_fn _ _ _ _ _ _ _ (by assumption) _)
theorem Find_fn (c m : Int) (f : Nat → UInt8) (a : Option Addr) (cap : Nat) (l : List At) (kind : UInt16) (hb : ∀ x ∈ l, x.2.l.length ≤ 140737488351232) (L : List SA) :
    Fn Try.prog 17 [.agg (msgC c m f (.slice a l.length cap)), v16 kind] (SA.dat (⟨a, cap, l⟩ : Sl At) :: L)
      (fun v L' => ∃ a' c', v = .tuple #[.slice a' (fv (findP (l.map pl) kind)).length c', .bool (fo (findP (l.map pl) kind))] ∧
        L' = SA.owns 5 1 (.slice a' (fv (findP (l.map pl) kind)).length c') (fv (findP (l.map pl) kind)).length ((fv (findP (l.map pl) kind)).map v8) :: SA.dat (⟨a, cap, l⟩ : Sl At) :: L) := by
  obtain ⟨r, hr⟩ : ∃ r, r = findP (l.map pl) kind := ⟨_, rfl⟩
  rw [← hr]
  refine Fn.of (N := 23) Try.func17 rfl rfl ?_
  intro Xh
  refine TC.know (dat_cap (a := a) (by with_reducible (repeat first | apply In.here | apply In.there))) ?_
  rintro ⟨hc1, hc2, -⟩
  refine TC.seq ?_
  refine TC.region ?_
  refine TL.eff rfl rfl rfl (X.boxA rfl rfl) ?_
  rintro _ _ ⟨b2, rfl, rfl⟩
  refine TL.val rfl rfl rfl (Y.assign rfl rfl) ?_
  refine TL.val rfl rfl rfl (Y.assign rfl rfl) ?_
  refine TL.nil ?_
  refine TQ.next ?_
  refine TC.seq ?_
  refine TC.seq ?_
  refine TC.region ?_
  refine TL.val rfl rfl rfl (by first | exact Y.fieldAddrJ rfl fo34_3 rfl (by ((try simp only [Nat.zero_add, Nat.add_zero, Nat.mul_one, Nat.one_mul, Nat.mul_zero, Nat.zero_mul]) <;> rfl)) | exact Y.fieldAddr rfl fo34_3 rfl (by ((try simp only [Nat.zero_add, Nat.add_zero, Nat.mul_one, Nat.one_mul, Nat.mul_zero, Nat.zero_mul]) <;> rfl))) ?_
  refine TL.val rfl rfl rfl (Y.load rfl sc32 rfl (by first | exact Cel.datAt0 (by with_reducible (repeat first | apply In.here | apply In.there)) (by assumption) (by rfl) | exact Cel.datAt (by with_reducible (repeat first | apply In.here | apply In.there)) (by assumption) (by rfl) | exact Cel.datAtS (by with_reducible (repeat first | apply In.here | apply In.there)) (by assumption) (by rfl) | exact Cel.blk (by with_reducible (repeat first | apply In.here | apply In.there)) (by first | exact getM (d := default) (by ((try simp only [List.length_set, List.length_map, List.length_append, List.length_replicate, List.size_toArray, List.length_cons, List.length_nil, Array.size_setIfInBounds]); omega)) | rfl) | exact Cel.rblk (by with_reducible (repeat first | apply In.here | apply In.there)) (by first | exact getM (d := default) (by ((try simp only [List.length_set, List.length_map, List.length_append, List.length_replicate, List.size_toArray, List.length_cons, List.length_nil, Array.size_setIfInBounds]); omega)) | rfl) | exact Cel.rds (by with_reducible (repeat first | apply In.here | apply In.there)) (getML (d := default) (by ((try simp only [List.length_set, List.length_map, List.length_append, List.length_replicate, List.size_toArray, List.length_cons, List.length_nil, Array.size_setIfInBounds]); omega))) | exact Cel.rdsB (by with_reducible (repeat first | apply In.here | apply In.there)) (getML (d := default) (by ((try simp only [List.length_set, List.length_map, List.length_append, List.length_replicate, List.size_toArray, List.length_cons, List.length_nil, Array.size_setIfInBounds]); omega))) | exact Cel.owns (by with_reducible (repeat first | apply In.here | apply In.there)) (getML (d := default) (by ((try simp only [List.length_set, List.length_map, List.length_append, List.length_replicate, List.size_toArray, List.length_cons, List.length_nil, Array.size_setIfInBounds]); omega))) | exact Cel.reads (by assumption) (by with_reducible (repeat first | apply In.here | apply In.there)) (getML (d := default) (by ((try simp only [List.length_set, List.length_map, List.length_append, List.length_replicate, List.size_toArray, List.length_cons, List.length_nil, Array.size_setIfInBounds]); omega))) | exact Cel.rds0 (by with_reducible (repeat first | apply In.here | apply In.there)) (getML (d := default) (by ((try simp only [List.length_set, List.length_map, List.length_append, List.length_replicate, List.size_toArray, List.length_cons, List.length_nil, Array.size_setIfInBounds]); omega))) | exact Cel.owns0 (by with_reducible (repeat first | apply In.here | apply In.there)) (getML (d := default) (by ((try simp only [List.length_set, List.length_map, List.length_append, List.length_replicate, List.size_toArray, List.length_cons, List.length_nil, Array.size_setIfInBounds]); omega))))) ?_
  refine TL.val rfl rfl rfl (Y.len rfl Try.underlying32 rfl) ?_
  refine TL.val rfl rfl rfl (Y.move rfl rfl) ?_
  refine TL.nil ?_
  refine TQ.next ?_
  refine TC.block ?_
  refine TC.loopF (ι := Nat) [4, 5] (fun k => k ≤ l.length ∧ findP ((l.map pl).take k) kind = none) (fun k => [(11, some (vN k))]) (fun k => []) (fun k => l.length - k) (0) (⟨by omega, rfl⟩) ⟨rfl, trivial⟩ Pulls.nil ?_
  rintro k ⟨hk, hq⟩ F' L' rfl hL'
  simp only [List.cons_append, List.nil_append] at hL'
  subst hL'
  refine TC.seq ?_
  refine TC.region ?_
  refine TL.val rfl rfl rfl (Y.bin rfl rfl rfl (br_ltN)) ?_
  refine TL.nil ?_
  refine TQ.next ?_
  refine TC.seq ?_
  refine TC.cond rfl (fun c0 => ?_) (fun c0 => ?_)
  · try simp only [decide_eq_true_eq, decide_eq_false_iff_not, Bool.not_eq_true', Bool.not_eq_false', Bool.and_eq_true, Bool.or_eq_true, Nat.not_lt, Nat.not_le, beq_iff_eq, bne_iff_ne] at c0
    refine TC.skip ?_
    refine TQ.next ?_
    refine TC.seq ?_
    refine TC.block ?_
    refine TC.seq ?_
    obtain ⟨⟨t, a1, ac, bs⟩, hx, hxm⟩ := getS (l := l) (i := k) (by omega)
    refine TC.know (dat_some (a := a) (by with_reducible (repeat first | apply In.here | apply In.there)) (by omega)) ?_
    rintro ⟨g, off, rfl⟩
    have hbl : bs.length ≤ 140737488351232 := hb _ hxm
    have hp := at_pl hx
    refine TC.region ?_
    refine TL.val rfl rfl rfl (by first | exact Y.indexSlB rfl sl32 rfl rfl (by omega) (by ((try simp only [Nat.zero_add, Nat.add_zero, Nat.mul_one, Nat.one_mul, Nat.mul_zero, Nat.zero_mul]) <;> rfl)) | exact Y.indexSl rfl sl32 rfl rfl (by omega) (by ((try simp only [Nat.zero_add, Nat.add_zero, Nat.mul_one, Nat.one_mul, Nat.mul_zero, Nat.zero_mul]) <;> rfl))) ?_
    refine TL.val rfl rfl rfl (Y.loadAgg rfl ag73 rfl (by first | exact Cels.datAt (by with_reducible (repeat first | apply In.here | apply In.there)) (by assumption) | exact Cels.full (by with_reducible (repeat first | apply In.here | apply In.there))) (by first | rfl | ((try simp only [List.length_map, List.length_set, List.length_replicate]); omega))) ?_
    refine TL.as (.agg #[v16 t, .slice a1 bs.length ac]) (by rfl) ?_
    refine TL.eff rfl rfl rfl (X.alloc rfl zc73) ?_
    rintro _ _ ⟨b7, rfl, rfl⟩
    refine TL.eff0 rfl rfl (by first | exact X.storeAll rfl sz73 (by rfl) rfl rfl (allOne (by rfl)) (by first | (with_reducible (repeat first | apply Pull.here | apply Pull.there); done) | (repeat first | apply Pull.here | apply Pull.there)) (by rfl) | exact X.storeAll rfl sz73 (by ((try simp only [List.size_toArray, List.length_set, List.length_map, List.length_append, List.length_replicate, List.length_cons, List.length_nil]); (first | done | omega | (simp [*]; done)))) rfl rfl (by simp [Value.oneCell']) (by first | (with_reducible (repeat first | apply Pull.here | apply Pull.there); done) | (repeat first | apply Pull.here | apply Pull.there)) (by ((try simp only [List.size_toArray, List.length_set, List.length_map, List.length_append, List.length_replicate, List.length_cons, List.length_nil]); (first | done | omega | (simp [*]; done)))) | exact X.storeAgg rfl sz73 (by ((try simp only [List.size_toArray, List.length_set, List.length_map, List.length_append, List.length_replicate, List.length_cons, List.length_nil]); (first | done | omega | (simp [*]; done)))) rfl rfl (by simp [Value.oneCell']) (by first | (with_reducible (repeat first | apply Pull.here | apply Pull.there); done) | (repeat first | apply Pull.here | apply Pull.there)) (by ((try simp only [List.size_toArray, List.length_set, List.length_map, List.length_append, List.length_replicate, List.length_cons, List.length_nil]); (first | done | omega | (simp [*]; done)))) (writeM (by ((try simp only [List.length_set, List.length_map, List.length_append, List.length_replicate]); omega)))) ?_
    rintro _ _ rfl
    refine TL.nil ?_
    refine TQ.next ?_
    refine TC.seq ?_
    refine TC.region ?_
    refine TL.val rfl rfl rfl (by first | exact Y.fieldAddrJ rfl fo73_0 rfl (by ((try simp only [Nat.zero_add, Nat.add_zero, Nat.mul_one, Nat.one_mul, Nat.mul_zero, Nat.zero_mul]) <;> rfl)) | exact Y.fieldAddr rfl fo73_0 rfl (by ((try simp only [Nat.zero_add, Nat.add_zero, Nat.mul_one, Nat.one_mul, Nat.mul_zero, Nat.zero_mul]) <;> rfl))) ?_
    refine TL.val rfl rfl rfl (Y.load rfl sc44 rfl (by first | exact Cel.datAt0 (by with_reducible (repeat first | apply In.here | apply In.there)) (by assumption) (by rfl) | exact Cel.datAt (by with_reducible (repeat first | apply In.here | apply In.there)) (by assumption) (by rfl) | exact Cel.datAtS (by with_reducible (repeat first | apply In.here | apply In.there)) (by assumption) (by rfl) | exact Cel.blk (by with_reducible (repeat first | apply In.here | apply In.there)) (by first | exact getM (d := (0 : UInt16)) (by ((try simp only [List.length_set, List.length_map, List.length_append, List.length_replicate, List.size_toArray, List.length_cons, List.length_nil, Array.size_setIfInBounds]); omega)) | rfl) | exact Cel.rblk (by with_reducible (repeat first | apply In.here | apply In.there)) (by first | exact getM (d := (0 : UInt16)) (by ((try simp only [List.length_set, List.length_map, List.length_append, List.length_replicate, List.size_toArray, List.length_cons, List.length_nil, Array.size_setIfInBounds]); omega)) | rfl) | exact Cel.rds (by with_reducible (repeat first | apply In.here | apply In.there)) (getML (d := (0 : UInt16)) (by ((try simp only [List.length_set, List.length_map, List.length_append, List.length_replicate, List.size_toArray, List.length_cons, List.length_nil, Array.size_setIfInBounds]); omega))) | exact Cel.rdsB (by with_reducible (repeat first | apply In.here | apply In.there)) (getML (d := (0 : UInt16)) (by ((try simp only [List.length_set, List.length_map, List.length_append, List.length_replicate, List.size_toArray, List.length_cons, List.length_nil, Array.size_setIfInBounds]); omega))) | exact Cel.owns (by with_reducible (repeat first | apply In.here | apply In.there)) (getML (d := (0 : UInt16)) (by ((try simp only [List.length_set, List.length_map, List.length_append, List.length_replicate, List.size_toArray, List.length_cons, List.length_nil, Array.size_setIfInBounds]); omega))) | exact Cel.reads (by assumption) (by with_reducible (repeat first | apply In.here | apply In.there)) (getML (d := (0 : UInt16)) (by ((try simp only [List.length_set, List.length_map, List.length_append, List.length_replicate, List.size_toArray, List.length_cons, List.length_nil, Array.size_setIfInBounds]); omega))) | exact Cel.rds0 (by with_reducible (repeat first | apply In.here | apply In.there)) (getML (d := (0 : UInt16)) (by ((try simp only [List.length_set, List.length_map, List.length_append, List.length_replicate, List.size_toArray, List.length_cons, List.length_nil, Array.size_setIfInBounds]); omega))) | exact Cel.owns0 (by with_reducible (repeat first | apply In.here | apply In.there)) (getML (d := (0 : UInt16)) (by ((try simp only [List.length_set, List.length_map, List.length_append, List.length_replicate, List.size_toArray, List.length_cons, List.length_nil, Array.size_setIfInBounds]); omega))))) ?_
    refine TL.val rfl rfl rfl (Y.move rfl rfl) ?_
    refine TL.val rfl rfl rfl (Y.bin rfl rfl rfl (br_eq16)) ?_
    refine TL.nil ?_
    refine TQ.next ?_
    refine TC.cond rfl (fun c1 => ?_) (fun c1 => ?_)
    · try simp only [decide_eq_true_eq, decide_eq_false_iff_not, Bool.not_eq_true', Bool.not_eq_false', Bool.and_eq_true, Bool.or_eq_true, Nat.not_lt, Nat.not_le, beq_iff_eq, bne_iff_ne] at c1
      refine TC.seq ?_
      obtain rfl : r = some (t, bs) := hr.trans (find_hit hq hp c1)
      refine TC.to (Ent.atBytes (a := some ⟨g, off, none⟩) (by first | (with_reducible (repeat first | apply Pull.here | apply Pull.there); done) | (repeat first | apply Pull.here | apply Pull.there)) hxm) ?_
      refine TC.region ?_
      refine TL.val rfl rfl rfl (by first | exact Y.fieldAddrJ rfl fo73_1 rfl (by ((try simp only [Nat.zero_add, Nat.add_zero, Nat.mul_one, Nat.one_mul, Nat.mul_zero, Nat.zero_mul]) <;> rfl)) | exact Y.fieldAddr rfl fo73_1 rfl (by ((try simp only [Nat.zero_add, Nat.add_zero, Nat.mul_one, Nat.one_mul, Nat.mul_zero, Nat.zero_mul]) <;> rfl))) ?_
      refine TL.val rfl rfl rfl (Y.load rfl sc27 rfl (by first | exact Cel.datAt0 (by with_reducible (repeat first | apply In.here | apply In.there)) (by assumption) (by rfl) | exact Cel.datAt (by with_reducible (repeat first | apply In.here | apply In.there)) (by assumption) (by rfl) | exact Cel.datAtS (by with_reducible (repeat first | apply In.here | apply In.there)) (by assumption) (by rfl) | exact Cel.blk (by with_reducible (repeat first | apply In.here | apply In.there)) (by first | exact getM (d := default) (by ((try simp only [List.length_set, List.length_map, List.length_append, List.length_replicate, List.size_toArray, List.length_cons, List.length_nil, Array.size_setIfInBounds]); omega)) | rfl) | exact Cel.rblk (by with_reducible (repeat first | apply In.here | apply In.there)) (by first | exact getM (d := default) (by ((try simp only [List.length_set, List.length_map, List.length_append, List.length_replicate, List.size_toArray, List.length_cons, List.length_nil, Array.size_setIfInBounds]); omega)) | rfl) | exact Cel.rds (by with_reducible (repeat first | apply In.here | apply In.there)) (getML (d := default) (by ((try simp only [List.length_set, List.length_map, List.length_append, List.length_replicate, List.size_toArray, List.length_cons, List.length_nil, Array.size_setIfInBounds]); omega))) | exact Cel.rdsB (by with_reducible (repeat first | apply In.here | apply In.there)) (getML (d := default) (by ((try simp only [List.length_set, List.length_map, List.length_append, List.length_replicate, List.size_toArray, List.length_cons, List.length_nil, Array.size_setIfInBounds]); omega))) | exact Cel.owns (by with_reducible (repeat first | apply In.here | apply In.there)) (getML (d := default) (by ((try simp only [List.length_set, List.length_map, List.length_append, List.length_replicate, List.size_toArray, List.length_cons, List.length_nil, Array.size_setIfInBounds]); omega))) | exact Cel.reads (by assumption) (by with_reducible (repeat first | apply In.here | apply In.there)) (getML (d := default) (by ((try simp only [List.length_set, List.length_map, List.length_append, List.length_replicate, List.size_toArray, List.length_cons, List.length_nil, Array.size_setIfInBounds]); omega))) | exact Cel.rds0 (by with_reducible (repeat first | apply In.here | apply In.there)) (getML (d := default) (by ((try simp only [List.length_set, List.length_map, List.length_append, List.length_replicate, List.size_toArray, List.length_cons, List.length_nil, Array.size_setIfInBounds]); omega))) | exact Cel.owns0 (by with_reducible (repeat first | apply In.here | apply In.there)) (getML (d := default) (by ((try simp only [List.length_set, List.length_map, List.length_append, List.length_replicate, List.size_toArray, List.length_cons, List.length_nil, Array.size_setIfInBounds]); omega))))) ?_
      refine TL.as (.slice a1 bs.length ac) (by rfl) ?_
      refine TL.eff rfl rfl rfl (X.call rfl Try.func44 (by kernel_rfl) rfl rfl (Fn.preE (by repeat first | (with_reducible apply Ent.refl) | (apply Ent.cons; case h => first | (with_reducible (repeat first | apply Pull.here | apply Pull.there); done) | (repeat first | apply Pull.here | apply Pull.there))) (rd.Clone_fn _ _ _ _ (by first | assumption | rfl) (by omega) _))) ?_
      rintro _ _ ⟨a21, c21, rfl, rfl⟩
      refine TL.val rfl rfl rfl (Y.assign rfl rfl) ?_
      refine TL.val rfl rfl rfl (Y.assign rfl rfl) ?_
      refine TL.nil ?_
      refine TQ.next ?_
      refine TC.ret ?_
      refine TQ.block_ret ?_
      refine TQ.then_ret ?_
      refine TQ.then_ret ?_
      refine TQ.block_ret ?_
      refine TQ.then_ret ?_
      refine TQ.retE (res2 rfl rfl rfl) (⟨_, _, rfl, rfl⟩) ?_
      exact (by (repeat first | (with_reducible apply Ent.refl) | (with_reducible apply Ent.nil) | refine Ent.cons (by first | (with_reducible (repeat first | apply Pull.here | apply Pull.there); done) | (repeat first | apply Pull.here | apply Pull.there)) ?_ | refine Ent.skip ?_))
    · try simp only [decide_eq_true_eq, decide_eq_false_iff_not, Bool.not_eq_true', Bool.not_eq_false', Bool.and_eq_true, Bool.or_eq_true, Nat.not_lt, Nat.not_le, beq_iff_eq, bne_iff_ne] at c1
      refine TC.skip ?_
      refine TQ.block_normal ?_
      refine TQ.next ?_
      refine TC.region ?_
      refine TL.val rfl rfl rfl (Y.bin rfl rfl rfl (br_addN (n := 1) (by omega))) ?_
      refine TL.val rfl rfl rfl (Y.move rfl rfl) ?_
      refine TL.nil ?_
      refine TQ.loopF (k + 1) (⟨by omega, find_miss hq hp (by simpa using c1)⟩) (by omega) ⟨rfl, trivial⟩ (by (repeat first | apply Grow.refl | apply Grow.step | apply Grow.app)) ?_ ?_ ?_
      · kernel_rfl
      · rfl
      · simp only [List.cons_append, List.nil_append]
        exact (by (repeat first | (with_reducible apply Ent.refl) | (with_reducible apply Ent.nil) | refine Ent.cons (by first | (with_reducible (repeat first | apply Pull.here | apply Pull.there); done) | (repeat first | apply Pull.here | apply Pull.there)) ?_ | refine Ent.skip ?_))
  · try simp only [decide_eq_true_eq, decide_eq_false_iff_not, Bool.not_eq_true', Bool.not_eq_false', Bool.and_eq_true, Bool.or_eq_true, Nat.not_lt, Nat.not_le, beq_iff_eq, bne_iff_ne] at c0
    refine TC.exit ?_
    refine TQ.then_exit ?_
    refine TQ.then_exit ?_
    refine TQ.block_exit ?_
    refine TQ.next ?_
    refine TC.seq ?_
    obtain rfl : k = l.length := by omega
    rw [← List.length_map (f := pl), List.take_length] at hq
    obtain rfl : r = none := hr.trans hq
    refine TC.to (Ent.nilOwn 5 1) ?_
    refine TC.region ?_
    refine TL.val rfl rfl rfl (Y.assign rfl rfl) ?_
    refine TL.val rfl rfl rfl (Y.assign rfl rfl) ?_
    refine TL.nil ?_
    refine TQ.next ?_
    refine TC.ret ?_
    refine TQ.retE (res2 rfl rfl rfl) (⟨_, _, rfl, rfl⟩) ?_
    exact (by (repeat first | (with_reducible apply Ent.refl) | (with_reducible apply Ent.nil) | refine Ent.cons (by first | (with_reducible (repeat first | apply Pull.here | apply Pull.there); done) | (repeat first | apply Pull.here | apply Pull.there)) ?_ | refine Ent.skip ?_))
set_option maxHeartbeats 1000000 in
--REG rostrum/rostrumref04.Find : _ _ ⟨fa{d}, fc{d}, rfl, rfl⟩ => (stun.refFind_fn _ _ _ _ _ _ _ _)
theorem refFind_fn (c m : Int) (f : Nat → UInt8) (a : Option Addr) (cap : Nat) (l : List At) (kind : UInt16) (L : List SA) :
    Fn Try.prog 18 [.agg (msgC c m f (.slice a l.length cap)), v16 kind] (SA.dat (⟨a, cap, l⟩ : Sl At) :: L)
      (fun v L' => ∃ a' c', v = .tuple #[.slice a' (fv (findP (l.map pl) kind)).length c', .bool (fo (findP (l.map pl) kind))] ∧
        L' = SA.rds 1 (.slice a' (fv (findP (l.map pl) kind)).length c') (fv (findP (l.map pl) kind)).length ((fv (findP (l.map pl) kind)).map v8) :: SA.dat (⟨a, cap, l⟩ : Sl At) :: L) := by
  obtain ⟨r, hr⟩ : ∃ r, r = findP (l.map pl) kind := ⟨_, rfl⟩
  rw [← hr]
  refine Fn.of (N := 28) Try.func18 rfl rfl ?_
  intro Xh
  refine TC.know (dat_cap (a := a) (by with_reducible (repeat first | apply In.here | apply In.there))) ?_
  rintro ⟨hc1, hc2, -⟩
  refine TC.seq ?_
  refine TC.region ?_
  refine TL.eff rfl rfl rfl (X.boxA rfl rfl) ?_
  rintro _ _ ⟨b2, rfl, rfl⟩
  refine TL.val rfl rfl rfl (Y.assign rfl rfl) ?_
  refine TL.val rfl rfl rfl (Y.assign rfl rfl) ?_
  refine TL.nil ?_
  refine TQ.next ?_
  refine TC.seq ?_
  refine TC.seq ?_
  refine TC.region ?_
  refine TL.val rfl rfl rfl (by first | exact Y.fieldAddrJ rfl fo25_3 rfl (by ((try simp only [Nat.zero_add, Nat.add_zero, Nat.mul_one, Nat.one_mul, Nat.mul_zero, Nat.zero_mul]) <;> rfl)) | exact Y.fieldAddr rfl fo25_3 rfl (by ((try simp only [Nat.zero_add, Nat.add_zero, Nat.mul_one, Nat.one_mul, Nat.mul_zero, Nat.zero_mul]) <;> rfl))) ?_
  refine TL.val rfl rfl rfl (Y.load rfl sc23 rfl (by first | exact Cel.datAt0 (by with_reducible (repeat first | apply In.here | apply In.there)) (by assumption) (by rfl) | exact Cel.datAt (by with_reducible (repeat first | apply In.here | apply In.there)) (by assumption) (by rfl) | exact Cel.datAtS (by with_reducible (repeat first | apply In.here | apply In.there)) (by assumption) (by rfl) | exact Cel.blk (by with_reducible (repeat first | apply In.here | apply In.there)) (by first | exact getM (d := default) (by ((try simp only [List.length_set, List.length_map, List.length_append, List.length_replicate, List.size_toArray, List.length_cons, List.length_nil, Array.size_setIfInBounds]); omega)) | rfl) | exact Cel.rblk (by with_reducible (repeat first | apply In.here | apply In.there)) (by first | exact getM (d := default) (by ((try simp only [List.length_set, List.length_map, List.length_append, List.length_replicate, List.size_toArray, List.length_cons, List.length_nil, Array.size_setIfInBounds]); omega)) | rfl) | exact Cel.rds (by with_reducible (repeat first | apply In.here | apply In.there)) (getML (d := default) (by ((try simp only [List.length_set, List.length_map, List.length_append, List.length_replicate, List.size_toArray, List.length_cons, List.length_nil, Array.size_setIfInBounds]); omega))) | exact Cel.rdsB (by with_reducible (repeat first | apply In.here | apply In.there)) (getML (d := default) (by ((try simp only [List.length_set, List.length_map, List.length_append, List.length_replicate, List.size_toArray, List.length_cons, List.length_nil, Array.size_setIfInBounds]); omega))) | exact Cel.owns (by with_reducible (repeat first | apply In.here | apply In.there)) (getML (d := default) (by ((try simp only [List.length_set, List.length_map, List.length_append, List.length_replicate, List.size_toArray, List.length_cons, List.length_nil, Array.size_setIfInBounds]); omega))) | exact Cel.reads (by assumption) (by with_reducible (repeat first | apply In.here | apply In.there)) (getML (d := default) (by ((try simp only [List.length_set, List.length_map, List.length_append, List.length_replicate, List.size_toArray, List.length_cons, List.length_nil, Array.size_setIfInBounds]); omega))) | exact Cel.rds0 (by with_reducible (repeat first | apply In.here | apply In.there)) (getML (d := default) (by ((try simp only [List.length_set, List.length_map, List.length_append, List.length_replicate, List.size_toArray, List.length_cons, List.length_nil, Array.size_setIfInBounds]); omega))) | exact Cel.owns0 (by with_reducible (repeat first | apply In.here | apply In.there)) (getML (d := default) (by ((try simp only [List.length_set, List.length_map, List.length_append, List.length_replicate, List.size_toArray, List.length_cons, List.length_nil, Array.size_setIfInBounds]); omega))))) ?_
  refine TL.val rfl rfl rfl (Y.len rfl Try.underlying23 rfl) ?_
  refine TL.val rfl rfl rfl (Y.move rfl rfl) ?_
  refine TL.nil ?_
  refine TQ.next ?_
  refine TC.block ?_
  refine TC.loopF (ι := Nat) [4, 5] (fun k => k ≤ l.length ∧ findP ((l.map pl).take k) kind = none) (fun k => [(10, some (vN k))]) (fun k => []) (fun k => l.length - k) (0) (⟨by omega, rfl⟩) ⟨rfl, trivial⟩ Pulls.nil ?_
  rintro k ⟨hk, hq⟩ F' L' rfl hL'
  simp only [List.cons_append, List.nil_append] at hL'
  subst hL'
  refine TC.seq ?_
  refine TC.region ?_
  refine TL.val rfl rfl rfl (Y.bin rfl rfl rfl (br_ltN)) ?_
  refine TL.nil ?_
  refine TQ.next ?_
  refine TC.seq ?_
  refine TC.cond rfl (fun c0 => ?_) (fun c0 => ?_)
  · try simp only [decide_eq_true_eq, decide_eq_false_iff_not, Bool.not_eq_true', Bool.not_eq_false', Bool.and_eq_true, Bool.or_eq_true, Nat.not_lt, Nat.not_le, beq_iff_eq, bne_iff_ne] at c0
    refine TC.skip ?_
    refine TQ.next ?_
    refine TC.seq ?_
    refine TC.block ?_
    refine TC.seq ?_
    obtain ⟨⟨t, a1, ac, bs⟩, hx, hxm⟩ := getS (l := l) (i := k) (by omega)
    refine TC.know (dat_some (a := a) (by with_reducible (repeat first | apply In.here | apply In.there)) (by omega)) ?_
    rintro ⟨g, off, rfl⟩
    have hp := at_pl hx
    refine TC.region ?_
    refine TL.val rfl rfl rfl (Y.move rfl rfl) ?_
    refine TL.val rfl rfl rfl (Y.assign rfl rfl) ?_
    refine TL.nil ?_
    refine TQ.next ?_
    refine TC.seq ?_
    refine TC.region ?_
    refine TL.val rfl rfl rfl (by first | exact Y.fieldAddrJ rfl fo25_3 rfl (by ((try simp only [Nat.zero_add, Nat.add_zero, Nat.mul_one, Nat.one_mul, Nat.mul_zero, Nat.zero_mul]) <;> rfl)) | exact Y.fieldAddr rfl fo25_3 rfl (by ((try simp only [Nat.zero_add, Nat.add_zero, Nat.mul_one, Nat.one_mul, Nat.mul_zero, Nat.zero_mul]) <;> rfl))) ?_
    refine TL.val rfl rfl rfl (Y.load rfl sc23 rfl (by first | exact Cel.datAt0 (by with_reducible (repeat first | apply In.here | apply In.there)) (by assumption) (by rfl) | exact Cel.datAt (by with_reducible (repeat first | apply In.here | apply In.there)) (by assumption) (by rfl) | exact Cel.datAtS (by with_reducible (repeat first | apply In.here | apply In.there)) (by assumption) (by rfl) | exact Cel.blk (by with_reducible (repeat first | apply In.here | apply In.there)) (by first | exact getM (d := default) (by ((try simp only [List.length_set, List.length_map, List.length_append, List.length_replicate, List.size_toArray, List.length_cons, List.length_nil, Array.size_setIfInBounds]); omega)) | rfl) | exact Cel.rblk (by with_reducible (repeat first | apply In.here | apply In.there)) (by first | exact getM (d := default) (by ((try simp only [List.length_set, List.length_map, List.length_append, List.length_replicate, List.size_toArray, List.length_cons, List.length_nil, Array.size_setIfInBounds]); omega)) | rfl) | exact Cel.rds (by with_reducible (repeat first | apply In.here | apply In.there)) (getML (d := default) (by ((try simp only [List.length_set, List.length_map, List.length_append, List.length_replicate, List.size_toArray, List.length_cons, List.length_nil, Array.size_setIfInBounds]); omega))) | exact Cel.rdsB (by with_reducible (repeat first | apply In.here | apply In.there)) (getML (d := default) (by ((try simp only [List.length_set, List.length_map, List.length_append, List.length_replicate, List.size_toArray, List.length_cons, List.length_nil, Array.size_setIfInBounds]); omega))) | exact Cel.owns (by with_reducible (repeat first | apply In.here | apply In.there)) (getML (d := default) (by ((try simp only [List.length_set, List.length_map, List.length_append, List.length_replicate, List.size_toArray, List.length_cons, List.length_nil, Array.size_setIfInBounds]); omega))) | exact Cel.reads (by assumption) (by with_reducible (repeat first | apply In.here | apply In.there)) (getML (d := default) (by ((try simp only [List.length_set, List.length_map, List.length_append, List.length_replicate, List.size_toArray, List.length_cons, List.length_nil, Array.size_setIfInBounds]); omega))) | exact Cel.rds0 (by with_reducible (repeat first | apply In.here | apply In.there)) (getML (d := default) (by ((try simp only [List.length_set, List.length_map, List.length_append, List.length_replicate, List.size_toArray, List.length_cons, List.length_nil, Array.size_setIfInBounds]); omega))) | exact Cel.owns0 (by with_reducible (repeat first | apply In.here | apply In.there)) (getML (d := default) (by ((try simp only [List.length_set, List.length_map, List.length_append, List.length_replicate, List.size_toArray, List.length_cons, List.length_nil, Array.size_setIfInBounds]); omega))))) ?_
    refine TL.val rfl rfl rfl (Y.move rfl rfl) ?_
    refine TL.val rfl rfl rfl (by first | exact Y.indexSlB rfl sl23 rfl rfl (by omega) (by ((try simp only [Nat.zero_add, Nat.add_zero, Nat.mul_one, Nat.one_mul, Nat.mul_zero, Nat.zero_mul]) <;> rfl)) | exact Y.indexSl rfl sl23 rfl rfl (by omega) (by ((try simp only [Nat.zero_add, Nat.add_zero, Nat.mul_one, Nat.one_mul, Nat.mul_zero, Nat.zero_mul]) <;> rfl))) ?_
    refine TL.val rfl rfl rfl (by first | exact Y.fieldAddrJ rfl fo65_0 rfl (by ((try simp only [Nat.zero_add, Nat.add_zero, Nat.mul_one, Nat.one_mul, Nat.mul_zero, Nat.zero_mul]) <;> rfl)) | exact Y.fieldAddr rfl fo65_0 rfl (by ((try simp only [Nat.zero_add, Nat.add_zero, Nat.mul_one, Nat.one_mul, Nat.mul_zero, Nat.zero_mul]) <;> rfl))) ?_
    refine TL.val rfl rfl rfl (Y.load rfl sc44 rfl (by first | exact Cel.datAt0 (by with_reducible (repeat first | apply In.here | apply In.there)) (by assumption) (by rfl) | exact Cel.datAt (by with_reducible (repeat first | apply In.here | apply In.there)) (by assumption) (by rfl) | exact Cel.datAtS (by with_reducible (repeat first | apply In.here | apply In.there)) (by assumption) (by rfl) | exact Cel.blk (by with_reducible (repeat first | apply In.here | apply In.there)) (by first | exact getM (d := (0 : UInt16)) (by ((try simp only [List.length_set, List.length_map, List.length_append, List.length_replicate, List.size_toArray, List.length_cons, List.length_nil, Array.size_setIfInBounds]); omega)) | rfl) | exact Cel.rblk (by with_reducible (repeat first | apply In.here | apply In.there)) (by first | exact getM (d := (0 : UInt16)) (by ((try simp only [List.length_set, List.length_map, List.length_append, List.length_replicate, List.size_toArray, List.length_cons, List.length_nil, Array.size_setIfInBounds]); omega)) | rfl) | exact Cel.rds (by with_reducible (repeat first | apply In.here | apply In.there)) (getML (d := (0 : UInt16)) (by ((try simp only [List.length_set, List.length_map, List.length_append, List.length_replicate, List.size_toArray, List.length_cons, List.length_nil, Array.size_setIfInBounds]); omega))) | exact Cel.rdsB (by with_reducible (repeat first | apply In.here | apply In.there)) (getML (d := (0 : UInt16)) (by ((try simp only [List.length_set, List.length_map, List.length_append, List.length_replicate, List.size_toArray, List.length_cons, List.length_nil, Array.size_setIfInBounds]); omega))) | exact Cel.owns (by with_reducible (repeat first | apply In.here | apply In.there)) (getML (d := (0 : UInt16)) (by ((try simp only [List.length_set, List.length_map, List.length_append, List.length_replicate, List.size_toArray, List.length_cons, List.length_nil, Array.size_setIfInBounds]); omega))) | exact Cel.reads (by assumption) (by with_reducible (repeat first | apply In.here | apply In.there)) (getML (d := (0 : UInt16)) (by ((try simp only [List.length_set, List.length_map, List.length_append, List.length_replicate, List.size_toArray, List.length_cons, List.length_nil, Array.size_setIfInBounds]); omega))) | exact Cel.rds0 (by with_reducible (repeat first | apply In.here | apply In.there)) (getML (d := (0 : UInt16)) (by ((try simp only [List.length_set, List.length_map, List.length_append, List.length_replicate, List.size_toArray, List.length_cons, List.length_nil, Array.size_setIfInBounds]); omega))) | exact Cel.owns0 (by with_reducible (repeat first | apply In.here | apply In.there)) (getML (d := (0 : UInt16)) (by ((try simp only [List.length_set, List.length_map, List.length_append, List.length_replicate, List.size_toArray, List.length_cons, List.length_nil, Array.size_setIfInBounds]); omega))))) ?_
    refine TL.as (v16 t) (by rfl) ?_
    refine TL.val rfl rfl rfl (Y.move rfl rfl) ?_
    refine TL.val rfl rfl rfl (Y.bin rfl rfl rfl (br_eq16)) ?_
    refine TL.nil ?_
    refine TQ.next ?_
    refine TC.cond rfl (fun c1 => ?_) (fun c1 => ?_)
    · try simp only [decide_eq_true_eq, decide_eq_false_iff_not, Bool.not_eq_true', Bool.not_eq_false', Bool.and_eq_true, Bool.or_eq_true, Nat.not_lt, Nat.not_le, beq_iff_eq, bne_iff_ne] at c1
      refine TC.seq ?_
      obtain rfl : r = some (t, bs) := hr.trans (find_hit hq hp c1)
      refine TC.to (Ent.atBytes (a := some ⟨g, off, none⟩) (by first | (with_reducible (repeat first | apply Pull.here | apply Pull.there); done) | (repeat first | apply Pull.here | apply Pull.there)) hxm) ?_
      refine TC.region ?_
      refine TL.val rfl rfl rfl (by first | exact Y.fieldAddrJ rfl fo25_3 rfl (by ((try simp only [Nat.zero_add, Nat.add_zero, Nat.mul_one, Nat.one_mul, Nat.mul_zero, Nat.zero_mul]) <;> rfl)) | exact Y.fieldAddr rfl fo25_3 rfl (by ((try simp only [Nat.zero_add, Nat.add_zero, Nat.mul_one, Nat.one_mul, Nat.mul_zero, Nat.zero_mul]) <;> rfl))) ?_
      refine TL.val rfl rfl rfl (Y.load rfl sc23 rfl (by first | exact Cel.datAt0 (by with_reducible (repeat first | apply In.here | apply In.there)) (by assumption) (by rfl) | exact Cel.datAt (by with_reducible (repeat first | apply In.here | apply In.there)) (by assumption) (by rfl) | exact Cel.datAtS (by with_reducible (repeat first | apply In.here | apply In.there)) (by assumption) (by rfl) | exact Cel.blk (by with_reducible (repeat first | apply In.here | apply In.there)) (by first | exact getM (d := default) (by ((try simp only [List.length_set, List.length_map, List.length_append, List.length_replicate, List.size_toArray, List.length_cons, List.length_nil, Array.size_setIfInBounds]); omega)) | rfl) | exact Cel.rblk (by with_reducible (repeat first | apply In.here | apply In.there)) (by first | exact getM (d := default) (by ((try simp only [List.length_set, List.length_map, List.length_append, List.length_replicate, List.size_toArray, List.length_cons, List.length_nil, Array.size_setIfInBounds]); omega)) | rfl) | exact Cel.rds (by with_reducible (repeat first | apply In.here | apply In.there)) (getML (d := default) (by ((try simp only [List.length_set, List.length_map, List.length_append, List.length_replicate, List.size_toArray, List.length_cons, List.length_nil, Array.size_setIfInBounds]); omega))) | exact Cel.rdsB (by with_reducible (repeat first | apply In.here | apply In.there)) (getML (d := default) (by ((try simp only [List.length_set, List.length_map, List.length_append, List.length_replicate, List.size_toArray, List.length_cons, List.length_nil, Array.size_setIfInBounds]); omega))) | exact Cel.owns (by with_reducible (repeat first | apply In.here | apply In.there)) (getML (d := default) (by ((try simp only [List.length_set, List.length_map, List.length_append, List.length_replicate, List.size_toArray, List.length_cons, List.length_nil, Array.size_setIfInBounds]); omega))) | exact Cel.reads (by assumption) (by with_reducible (repeat first | apply In.here | apply In.there)) (getML (d := default) (by ((try simp only [List.length_set, List.length_map, List.length_append, List.length_replicate, List.size_toArray, List.length_cons, List.length_nil, Array.size_setIfInBounds]); omega))) | exact Cel.rds0 (by with_reducible (repeat first | apply In.here | apply In.there)) (getML (d := default) (by ((try simp only [List.length_set, List.length_map, List.length_append, List.length_replicate, List.size_toArray, List.length_cons, List.length_nil, Array.size_setIfInBounds]); omega))) | exact Cel.owns0 (by with_reducible (repeat first | apply In.here | apply In.there)) (getML (d := default) (by ((try simp only [List.length_set, List.length_map, List.length_append, List.length_replicate, List.size_toArray, List.length_cons, List.length_nil, Array.size_setIfInBounds]); omega))))) ?_
      refine TL.val rfl rfl rfl (Y.move rfl rfl) ?_
      refine TL.val rfl rfl rfl (by first | exact Y.indexSlB rfl sl23 rfl rfl (by omega) (by ((try simp only [Nat.zero_add, Nat.add_zero, Nat.mul_one, Nat.one_mul, Nat.mul_zero, Nat.zero_mul]) <;> rfl)) | exact Y.indexSl rfl sl23 rfl rfl (by omega) (by ((try simp only [Nat.zero_add, Nat.add_zero, Nat.mul_one, Nat.one_mul, Nat.mul_zero, Nat.zero_mul]) <;> rfl))) ?_
      refine TL.val rfl rfl rfl (by first | exact Y.fieldAddrJ rfl fo65_1 rfl (by ((try simp only [Nat.zero_add, Nat.add_zero, Nat.mul_one, Nat.one_mul, Nat.mul_zero, Nat.zero_mul]) <;> rfl)) | exact Y.fieldAddr rfl fo65_1 rfl (by ((try simp only [Nat.zero_add, Nat.add_zero, Nat.mul_one, Nat.one_mul, Nat.mul_zero, Nat.zero_mul]) <;> rfl))) ?_
      refine TL.val rfl rfl rfl (Y.load rfl sc27 rfl (by first | exact Cel.datAt0 (by with_reducible (repeat first | apply In.here | apply In.there)) (by assumption) (by rfl) | exact Cel.datAt (by with_reducible (repeat first | apply In.here | apply In.there)) (by assumption) (by rfl) | exact Cel.datAtS (by with_reducible (repeat first | apply In.here | apply In.there)) (by assumption) (by rfl) | exact Cel.blk (by with_reducible (repeat first | apply In.here | apply In.there)) (by first | exact getM (d := default) (by ((try simp only [List.length_set, List.length_map, List.length_append, List.length_replicate, List.size_toArray, List.length_cons, List.length_nil, Array.size_setIfInBounds]); omega)) | rfl) | exact Cel.rblk (by with_reducible (repeat first | apply In.here | apply In.there)) (by first | exact getM (d := default) (by ((try simp only [List.length_set, List.length_map, List.length_append, List.length_replicate, List.size_toArray, List.length_cons, List.length_nil, Array.size_setIfInBounds]); omega)) | rfl) | exact Cel.rds (by with_reducible (repeat first | apply In.here | apply In.there)) (getML (d := default) (by ((try simp only [List.length_set, List.length_map, List.length_append, List.length_replicate, List.size_toArray, List.length_cons, List.length_nil, Array.size_setIfInBounds]); omega))) | exact Cel.rdsB (by with_reducible (repeat first | apply In.here | apply In.there)) (getML (d := default) (by ((try simp only [List.length_set, List.length_map, List.length_append, List.length_replicate, List.size_toArray, List.length_cons, List.length_nil, Array.size_setIfInBounds]); omega))) | exact Cel.owns (by with_reducible (repeat first | apply In.here | apply In.there)) (getML (d := default) (by ((try simp only [List.length_set, List.length_map, List.length_append, List.length_replicate, List.size_toArray, List.length_cons, List.length_nil, Array.size_setIfInBounds]); omega))) | exact Cel.reads (by assumption) (by with_reducible (repeat first | apply In.here | apply In.there)) (getML (d := default) (by ((try simp only [List.length_set, List.length_map, List.length_append, List.length_replicate, List.size_toArray, List.length_cons, List.length_nil, Array.size_setIfInBounds]); omega))) | exact Cel.rds0 (by with_reducible (repeat first | apply In.here | apply In.there)) (getML (d := default) (by ((try simp only [List.length_set, List.length_map, List.length_append, List.length_replicate, List.size_toArray, List.length_cons, List.length_nil, Array.size_setIfInBounds]); omega))) | exact Cel.owns0 (by with_reducible (repeat first | apply In.here | apply In.there)) (getML (d := default) (by ((try simp only [List.length_set, List.length_map, List.length_append, List.length_replicate, List.size_toArray, List.length_cons, List.length_nil, Array.size_setIfInBounds]); omega))))) ?_
      refine TL.as (.slice a1 bs.length ac) (by rfl) ?_
      refine TL.val rfl rfl rfl (Y.assign rfl rfl) ?_
      refine TL.val rfl rfl rfl (Y.assign rfl rfl) ?_
      refine TL.nil ?_
      refine TQ.next ?_
      refine TC.ret ?_
      refine TQ.block_ret ?_
      refine TQ.then_ret ?_
      refine TQ.then_ret ?_
      refine TQ.block_ret ?_
      refine TQ.then_ret ?_
      refine TQ.retE (res2 rfl rfl rfl) (⟨_, _, rfl, rfl⟩) ?_
      exact (by (repeat first | (with_reducible apply Ent.refl) | (with_reducible apply Ent.nil) | refine Ent.cons (by first | (with_reducible (repeat first | apply Pull.here | apply Pull.there); done) | (repeat first | apply Pull.here | apply Pull.there)) ?_ | refine Ent.skip ?_))
    · try simp only [decide_eq_true_eq, decide_eq_false_iff_not, Bool.not_eq_true', Bool.not_eq_false', Bool.and_eq_true, Bool.or_eq_true, Nat.not_lt, Nat.not_le, beq_iff_eq, bne_iff_ne] at c1
      refine TC.skip ?_
      refine TQ.block_normal ?_
      refine TQ.next ?_
      refine TC.region ?_
      refine TL.val rfl rfl rfl (Y.bin rfl rfl rfl (br_addN (n := 1) (by omega))) ?_
      refine TL.val rfl rfl rfl (Y.move rfl rfl) ?_
      refine TL.nil ?_
      refine TQ.loopF (k + 1) (⟨by omega, find_miss hq hp (by simpa using c1)⟩) (by omega) ⟨rfl, trivial⟩ (by (repeat first | apply Grow.refl | apply Grow.step | apply Grow.app)) ?_ ?_ ?_
      · kernel_rfl
      · rfl
      · simp only [List.cons_append, List.nil_append]
        exact (by (repeat first | (with_reducible apply Ent.refl) | (with_reducible apply Ent.nil) | refine Ent.cons (by first | (with_reducible (repeat first | apply Pull.here | apply Pull.there); done) | (repeat first | apply Pull.here | apply Pull.there)) ?_ | refine Ent.skip ?_))
  · try simp only [decide_eq_true_eq, decide_eq_false_iff_not, Bool.not_eq_true', Bool.not_eq_false', Bool.and_eq_true, Bool.or_eq_true, Nat.not_lt, Nat.not_le, beq_iff_eq, bne_iff_ne] at c0
    refine TC.exit ?_
    refine TQ.then_exit ?_
    refine TQ.then_exit ?_
    refine TQ.block_exit ?_
    refine TQ.next ?_
    refine TC.seq ?_
    obtain rfl : k = l.length := by omega
    rw [← List.length_map (f := pl), List.take_length] at hq
    obtain rfl : r = none := hr.trans hq
    refine TC.to ((Ent.nilOwn 5 1).trans Ent.freeze) ?_
    refine TC.region ?_
    refine TL.val rfl rfl rfl (Y.assign rfl rfl) ?_
    refine TL.val rfl rfl rfl (Y.assign rfl rfl) ?_
    refine TL.nil ?_
    refine TQ.next ?_
    refine TC.ret ?_
    refine TQ.retE (res2 rfl rfl rfl) (⟨_, _, rfl, rfl⟩) ?_
    exact (by (repeat first | (with_reducible apply Ent.refl) | (with_reducible apply Ent.nil) | refine Ent.cons (by first | (with_reducible (repeat first | apply Pull.here | apply Pull.there); done) | (repeat first | apply Pull.here | apply Pull.there)) ?_ | refine Ent.skip ?_))
def mapB (ip : UInt32) (port : UInt16) : List UInt8 := [0, 1] ++ be16 (port ^^^ 8466) ++ be32 (ip ^^^ 554869826)
--REG rostrum/stun.Mapped : _ _ ⟨ma{d}, mc{d}, rfl, rfl⟩ => (stun.Mapped_fn _ _ _)
theorem Mapped_fn (ip : UInt32) (port : UInt16) (L : List SA) :
    Fn Try.prog 21 [.agg #[v32 ip, v16 port]] L
      (fun v L' => ∃ a' c', v = .slice a' (mapB ip port).length c' ∧ L' = SA.owns 5 1 (.slice a' (mapB ip port).length c') (mapB ip port).length ((mapB ip port).map v8) :: L) := by
  refine Fn.of (N := 14) Try.func21 rfl rfl ?_
  intro Xh
  refine TC.seq ?_
  refine TC.region ?_
  refine TL.eff rfl rfl rfl (X.boxA rfl rfl) ?_
  rintro _ _ ⟨b1, rfl, rfl⟩
  refine TL.val rfl rfl rfl (Y.assign rfl rfl) ?_
  refine TL.nil ?_
  refine TQ.next ?_
  refine TC.seq ?_
  refine TC.region ?_
  refine TL.eff rfl rfl rfl (X.lit rfl el69 rfl rfl rfl (by decide) rfl) ?_
  rintro _ _ ⟨g4, rfl, rfl⟩
  refine TL.eff rfl rfl rfl (X.alloc rfl zc69) ?_
  rintro _ _ ⟨b3, rfl, rfl⟩
  refine TL.eff0 rfl rfl (by first | exact X.store rfl sz69 rfl rfl rfl (by first | (with_reducible (repeat first | apply Pull.here | apply Pull.there); done) | (repeat first | apply Pull.here | apply Pull.there)) (by ((try simp only [List.length_set, List.length_map, List.length_append, List.length_replicate, List.size_toArray, List.length_cons, List.length_nil, Array.size_setIfInBounds]); omega)) (by first | exact setM | rfl) | exact X.storeOwn rfl sz69 rfl (Nat.zero_add _).symm rfl rfl (by first | (with_reducible (repeat first | apply Pull.here | apply Pull.there); done) | (repeat first | apply Pull.here | apply Pull.there)) (by ((try simp only [List.length_set, List.length_map, List.length_append, List.length_replicate, List.size_toArray, List.length_cons, List.length_nil, Array.size_setIfInBounds]); omega)) (by first | exact setML | rfl) | exact X.storeOwn rfl sz69 rfl rfl rfl rfl (by first | (with_reducible (repeat first | apply Pull.here | apply Pull.there); done) | (repeat first | apply Pull.here | apply Pull.there)) (by ((try simp only [List.length_set, List.length_map, List.length_append, List.length_replicate, List.size_toArray, List.length_cons, List.length_nil, Array.size_setIfInBounds]); omega)) (by first | exact setML | rfl)) ?_
  rintro _ _ rfl
  refine TL.nil ?_
  refine TQ.next ?_
  refine TC.seq ?_
  refine TC.to (wr.put (b := b3) (l := [0, 1]) (a := some ⟨g4, 0, none⟩) (n := 2) (cap := 2) (by first | (with_reducible (repeat first | apply Pull.here | apply Pull.there); done) | (repeat first | apply Pull.here | apply Pull.there)) (by rfl) (by first | (with_reducible (repeat first | apply Pull.here | apply Pull.there); done) | (repeat first | apply Pull.here | apply Pull.there)) rfl rfl Ent.refl) ?_
  refine TC.region ?_
  refine TL.val rfl rfl rfl (by first | exact Y.fieldAddrJ rfl fo47_1 rfl (by ((try simp only [Nat.zero_add, Nat.add_zero, Nat.mul_one, Nat.one_mul, Nat.mul_zero, Nat.zero_mul]) <;> rfl)) | exact Y.fieldAddr rfl fo47_1 rfl (by ((try simp only [Nat.zero_add, Nat.add_zero, Nat.mul_one, Nat.one_mul, Nat.mul_zero, Nat.zero_mul]) <;> rfl))) ?_
  refine TL.val rfl rfl rfl (Y.load rfl sc44 rfl (by first | exact Cel.datAt0 (by with_reducible (repeat first | apply In.here | apply In.there)) (by assumption) (by rfl) | exact Cel.datAt (by with_reducible (repeat first | apply In.here | apply In.there)) (by assumption) (by rfl) | exact Cel.datAtS (by with_reducible (repeat first | apply In.here | apply In.there)) (by assumption) (by rfl) | exact Cel.blk (by with_reducible (repeat first | apply In.here | apply In.there)) (by first | exact getM (d := (0 : UInt16)) (by ((try simp only [List.length_set, List.length_map, List.length_append, List.length_replicate, List.size_toArray, List.length_cons, List.length_nil, Array.size_setIfInBounds]); omega)) | rfl) | exact Cel.rblk (by with_reducible (repeat first | apply In.here | apply In.there)) (by first | exact getM (d := (0 : UInt16)) (by ((try simp only [List.length_set, List.length_map, List.length_append, List.length_replicate, List.size_toArray, List.length_cons, List.length_nil, Array.size_setIfInBounds]); omega)) | rfl) | exact Cel.rds (by with_reducible (repeat first | apply In.here | apply In.there)) (getML (d := (0 : UInt16)) (by ((try simp only [List.length_set, List.length_map, List.length_append, List.length_replicate, List.size_toArray, List.length_cons, List.length_nil, Array.size_setIfInBounds]); omega))) | exact Cel.rdsB (by with_reducible (repeat first | apply In.here | apply In.there)) (getML (d := (0 : UInt16)) (by ((try simp only [List.length_set, List.length_map, List.length_append, List.length_replicate, List.size_toArray, List.length_cons, List.length_nil, Array.size_setIfInBounds]); omega))) | exact Cel.owns (by with_reducible (repeat first | apply In.here | apply In.there)) (getML (d := (0 : UInt16)) (by ((try simp only [List.length_set, List.length_map, List.length_append, List.length_replicate, List.size_toArray, List.length_cons, List.length_nil, Array.size_setIfInBounds]); omega))) | exact Cel.reads (by assumption) (by with_reducible (repeat first | apply In.here | apply In.there)) (getML (d := (0 : UInt16)) (by ((try simp only [List.length_set, List.length_map, List.length_append, List.length_replicate, List.size_toArray, List.length_cons, List.length_nil, Array.size_setIfInBounds]); omega))) | exact Cel.rds0 (by with_reducible (repeat first | apply In.here | apply In.there)) (getML (d := (0 : UInt16)) (by ((try simp only [List.length_set, List.length_map, List.length_append, List.length_replicate, List.size_toArray, List.length_cons, List.length_nil, Array.size_setIfInBounds]); omega))) | exact Cel.owns0 (by with_reducible (repeat first | apply In.here | apply In.there)) (getML (d := (0 : UInt16)) (by ((try simp only [List.length_set, List.length_map, List.length_append, List.length_replicate, List.size_toArray, List.length_cons, List.length_nil, Array.size_setIfInBounds]); omega))))) ?_
  refine TL.val rfl rfl rfl (Y.bin rfl rfl rfl (br_xor16 (y := 8466))) ?_
  refine TL.eff rfl rfl rfl (X.call rfl Try.func33 (by kernel_rfl) rfl rfl (Fn.preE (by repeat first | (with_reducible apply Ent.refl) | (apply Ent.cons; case h => first | (with_reducible (repeat first | apply Pull.here | apply Pull.there); done) | (repeat first | apply Pull.here | apply Pull.there))) (wr.U16_fn _ _ _ (by first | omega | (simp only [List.length_append, List.length_nil, List.length_cons, wr.be16_len, wr.be32_len]; omega) | (simp only [List.length_append, List.length_nil, List.length_cons, wr.be16_len, wr.be32_len, r1.be2_len, r1.be4_len]; omega) | (simp; omega)) _))) ?_
  rintro _ _ ⟨rfl, rfl⟩
  refine TL.nil ?_
  refine TQ.next ?_
  refine TC.seq ?_
  refine TC.region ?_
  refine TL.val rfl rfl rfl (by first | exact Y.fieldAddrJ rfl fo47_0 rfl (by ((try simp only [Nat.zero_add, Nat.add_zero, Nat.mul_one, Nat.one_mul, Nat.mul_zero, Nat.zero_mul]) <;> rfl)) | exact Y.fieldAddr rfl fo47_0 rfl (by ((try simp only [Nat.zero_add, Nat.add_zero, Nat.mul_one, Nat.one_mul, Nat.mul_zero, Nat.zero_mul]) <;> rfl))) ?_
  refine TL.val rfl rfl rfl (Y.load rfl sc45 rfl (by first | exact Cel.datAt0 (by with_reducible (repeat first | apply In.here | apply In.there)) (by assumption) (by rfl) | exact Cel.datAt (by with_reducible (repeat first | apply In.here | apply In.there)) (by assumption) (by rfl) | exact Cel.datAtS (by with_reducible (repeat first | apply In.here | apply In.there)) (by assumption) (by rfl) | exact Cel.blk (by with_reducible (repeat first | apply In.here | apply In.there)) (by first | exact getM (d := (0 : UInt32)) (by ((try simp only [List.length_set, List.length_map, List.length_append, List.length_replicate, List.size_toArray, List.length_cons, List.length_nil, Array.size_setIfInBounds]); omega)) | rfl) | exact Cel.rblk (by with_reducible (repeat first | apply In.here | apply In.there)) (by first | exact getM (d := (0 : UInt32)) (by ((try simp only [List.length_set, List.length_map, List.length_append, List.length_replicate, List.size_toArray, List.length_cons, List.length_nil, Array.size_setIfInBounds]); omega)) | rfl) | exact Cel.rds (by with_reducible (repeat first | apply In.here | apply In.there)) (getML (d := (0 : UInt32)) (by ((try simp only [List.length_set, List.length_map, List.length_append, List.length_replicate, List.size_toArray, List.length_cons, List.length_nil, Array.size_setIfInBounds]); omega))) | exact Cel.rdsB (by with_reducible (repeat first | apply In.here | apply In.there)) (getML (d := (0 : UInt32)) (by ((try simp only [List.length_set, List.length_map, List.length_append, List.length_replicate, List.size_toArray, List.length_cons, List.length_nil, Array.size_setIfInBounds]); omega))) | exact Cel.owns (by with_reducible (repeat first | apply In.here | apply In.there)) (getML (d := (0 : UInt32)) (by ((try simp only [List.length_set, List.length_map, List.length_append, List.length_replicate, List.size_toArray, List.length_cons, List.length_nil, Array.size_setIfInBounds]); omega))) | exact Cel.reads (by assumption) (by with_reducible (repeat first | apply In.here | apply In.there)) (getML (d := (0 : UInt32)) (by ((try simp only [List.length_set, List.length_map, List.length_append, List.length_replicate, List.size_toArray, List.length_cons, List.length_nil, Array.size_setIfInBounds]); omega))) | exact Cel.rds0 (by with_reducible (repeat first | apply In.here | apply In.there)) (getML (d := (0 : UInt32)) (by ((try simp only [List.length_set, List.length_map, List.length_append, List.length_replicate, List.size_toArray, List.length_cons, List.length_nil, Array.size_setIfInBounds]); omega))) | exact Cel.owns0 (by with_reducible (repeat first | apply In.here | apply In.there)) (getML (d := (0 : UInt32)) (by ((try simp only [List.length_set, List.length_map, List.length_append, List.length_replicate, List.size_toArray, List.length_cons, List.length_nil, Array.size_setIfInBounds]); omega))))) ?_
  refine TL.val rfl rfl rfl (Y.bin rfl rfl rfl (br_xor32 (y := 554869826))) ?_
  refine TL.eff rfl rfl rfl (X.call rfl Try.func34 (by kernel_rfl) rfl rfl (Fn.preE (by repeat first | (with_reducible apply Ent.refl) | (apply Ent.cons; case h => first | (with_reducible (repeat first | apply Pull.here | apply Pull.there); done) | (repeat first | apply Pull.here | apply Pull.there))) (wr.U32_fn _ _ _ (by first | omega | (simp only [List.length_append, List.length_nil, List.length_cons, wr.be16_len, wr.be32_len]; omega) | (simp only [List.length_append, List.length_nil, List.length_cons, wr.be16_len, wr.be32_len, r1.be2_len, r1.be4_len]; omega) | (simp; omega)) _))) ?_
  rintro _ _ ⟨rfl, rfl⟩
  refine TL.nil ?_
  refine TQ.next ?_
  refine TC.seq ?_
  refine TC.open (by first | (with_reducible (repeat first | apply Pull.here | apply Pull.there); done) | (repeat first | apply Pull.here | apply Pull.there)) ?_
  rintro ⟨a, cap⟩
  refine TC.split (by first | (with_reducible (repeat first | apply Pull.here | apply Pull.there); done) | (repeat first | apply Pull.here | apply Pull.there)) ?_
  refine TC.region ?_
  refine TL.val rfl rfl rfl (Y.load rfl sc69 rfl (by first | exact Cel.datAt0 (by with_reducible (repeat first | apply In.here | apply In.there)) (by assumption) (by rfl) | exact Cel.datAt (by with_reducible (repeat first | apply In.here | apply In.there)) (by assumption) (by rfl) | exact Cel.datAtS (by with_reducible (repeat first | apply In.here | apply In.there)) (by assumption) (by rfl) | exact Cel.blk (by with_reducible (repeat first | apply In.here | apply In.there)) (by first | exact getM (d := default) (by ((try simp only [List.length_set, List.length_map, List.length_append, List.length_replicate, List.size_toArray, List.length_cons, List.length_nil, Array.size_setIfInBounds]); omega)) | rfl) | exact Cel.rblk (by with_reducible (repeat first | apply In.here | apply In.there)) (by first | exact getM (d := default) (by ((try simp only [List.length_set, List.length_map, List.length_append, List.length_replicate, List.size_toArray, List.length_cons, List.length_nil, Array.size_setIfInBounds]); omega)) | rfl) | exact Cel.rds (by with_reducible (repeat first | apply In.here | apply In.there)) (getML (d := default) (by ((try simp only [List.length_set, List.length_map, List.length_append, List.length_replicate, List.size_toArray, List.length_cons, List.length_nil, Array.size_setIfInBounds]); omega))) | exact Cel.rdsB (by with_reducible (repeat first | apply In.here | apply In.there)) (getML (d := default) (by ((try simp only [List.length_set, List.length_map, List.length_append, List.length_replicate, List.size_toArray, List.length_cons, List.length_nil, Array.size_setIfInBounds]); omega))) | exact Cel.owns (by with_reducible (repeat first | apply In.here | apply In.there)) (getML (d := default) (by ((try simp only [List.length_set, List.length_map, List.length_append, List.length_replicate, List.size_toArray, List.length_cons, List.length_nil, Array.size_setIfInBounds]); omega))) | exact Cel.reads (by assumption) (by with_reducible (repeat first | apply In.here | apply In.there)) (getML (d := default) (by ((try simp only [List.length_set, List.length_map, List.length_append, List.length_replicate, List.size_toArray, List.length_cons, List.length_nil, Array.size_setIfInBounds]); omega))) | exact Cel.rds0 (by with_reducible (repeat first | apply In.here | apply In.there)) (getML (d := default) (by ((try simp only [List.length_set, List.length_map, List.length_append, List.length_replicate, List.size_toArray, List.length_cons, List.length_nil, Array.size_setIfInBounds]); omega))) | exact Cel.owns0 (by with_reducible (repeat first | apply In.here | apply In.there)) (getML (d := default) (by ((try simp only [List.length_set, List.length_map, List.length_append, List.length_replicate, List.size_toArray, List.length_cons, List.length_nil, Array.size_setIfInBounds]); omega))))) ?_
  refine TL.val rfl rfl rfl (Y.assign rfl rfl) ?_
  refine TL.nil ?_
  refine TQ.next ?_
  refine TC.ret ?_
  refine TQ.retE (res1 rfl rfl) (⟨a, cap, rfl, rfl⟩) ?_
  exact (by (repeat first | (with_reducible apply Ent.refl) | (with_reducible apply Ent.nil) | refine Ent.cons (by first | (with_reducible (repeat first | apply Pull.here | apply Pull.there); done) | (repeat first | apply Pull.here | apply Pull.there)) ?_ | refine Ent.skip ?_))
theorem be2_be16 (x : UInt16) : be2 x.toNat = be16 x := (be16_two x).symm
set_option maxHeartbeats 1000000 in
--REG rostrum/rostrumref04.Mapped : _ _ ⟨ma{d}, mc{d}, rfl, rfl⟩ => (stun.refMapped_fn _ _ _)
theorem refMapped_fn (ip : UInt32) (port : UInt16) (L : List SA) :
    Fn Try.prog 22 [.agg #[v32 ip, v16 port]] L
      (fun v L' => ∃ a' c', v = .slice a' (mapB ip port).length c' ∧ L' = SA.owns 5 1 (.slice a' (mapB ip port).length c') (mapB ip port).length ((mapB ip port).map v8) :: L) := by
  refine Fn.of (N := 15) Try.func22 rfl rfl ?_
  intro Xh
  refine TC.seq ?_
  refine TC.region ?_
  refine TL.eff rfl rfl rfl (X.boxA rfl rfl) ?_
  rintro _ _ ⟨b1, rfl, rfl⟩
  refine TL.val rfl rfl rfl (Y.assign rfl rfl) ?_
  refine TL.nil ?_
  refine TQ.next ?_
  refine TC.seq ?_
  have hpl := (port ^^^ 8466).toNat_lt
  refine TC.draws 11 [SA.blk b1 #[v32 ip, v16 port] 47] (by kernel_rfl) (by kernel_rfl) (by repeat first | exact holds_nil | refine holds_cons (by with_reducible (repeat first | apply In.here | apply In.there)) ?_) ?_
  refine TA.takeP 1 rfl rfl rfl rfl (by kernel_rfl) (by kernel_rfl) (by kernel_rfl) rfl (fun _ _ _ h => h) (by first | exact Y.fieldAddrJ rfl fo47_1 rfl (by ((try simp only [Nat.zero_add, Nat.add_zero, Nat.mul_one, Nat.one_mul, Nat.mul_zero, Nat.zero_mul]) <;> rfl)) | exact Y.fieldAddr rfl fo47_1 rfl (by ((try simp only [Nat.zero_add, Nat.add_zero, Nat.mul_one, Nat.one_mul, Nat.mul_zero, Nat.zero_mul]) <;> rfl))) ?_
  refine TA.takeP 6 rfl rfl rfl rfl (by kernel_rfl) (by kernel_rfl) (by kernel_rfl) rfl (fun _ _ _ h => h) (by first | exact Y.fieldAddrJ rfl fo47_0 rfl (by ((try simp only [Nat.zero_add, Nat.add_zero, Nat.mul_one, Nat.one_mul, Nat.mul_zero, Nat.zero_mul]) <;> rfl)) | exact Y.fieldAddr rfl fo47_0 rfl (by ((try simp only [Nat.zero_add, Nat.add_zero, Nat.mul_one, Nat.one_mul, Nat.mul_zero, Nat.zero_mul]) <;> rfl))) ?_
  refine TA.any (rs := [0, 2, 7]) (by kernel_rfl) (by simp) ?_
  simp only [List.forall_mem_cons, List.not_mem_nil, false_implies, implies_true, and_true]
  refine ⟨?_, ?_, ?_⟩
  · skip
    refine TAo.eff rfl rfl rfl rfl (X.lit rfl el27 rfl rfl rfl (by decide) rfl) ?_
    rintro _ _ ⟨g3, rfl, rfl⟩
    refine ⟨(Or.inr (by repeat first | exact holds_nil | refine holds_cons (by with_reducible (repeat first | apply In.here | apply In.there)) ?_)), ?_⟩
    refine TA.any (rs := [2, 7]) (by kernel_rfl) (by simp) ?_
    simp only [List.forall_mem_cons, List.not_mem_nil, false_implies, implies_true, and_true]
    refine ⟨?_, ?_⟩
    · skip
      refine TAo.eff rfl rfl rfl rfl (Eff.val (fun _ h => by cases h) (Y.load rfl sc44 rfl (by first | exact Cel.datAt0 (by with_reducible (repeat first | apply In.here | apply In.there)) (by assumption) (by rfl) | exact Cel.datAt (by with_reducible (repeat first | apply In.here | apply In.there)) (by assumption) (by rfl) | exact Cel.datAtS (by with_reducible (repeat first | apply In.here | apply In.there)) (by assumption) (by rfl) | exact Cel.blk (by with_reducible (repeat first | apply In.here | apply In.there)) (by first | exact getM (d := (0 : UInt16)) (by ((try simp only [List.length_set, List.length_map, List.length_append, List.length_replicate, List.size_toArray, List.length_cons, List.length_nil, Array.size_setIfInBounds]); omega)) | rfl) | exact Cel.rblk (by with_reducible (repeat first | apply In.here | apply In.there)) (by first | exact getM (d := (0 : UInt16)) (by ((try simp only [List.length_set, List.length_map, List.length_append, List.length_replicate, List.size_toArray, List.length_cons, List.length_nil, Array.size_setIfInBounds]); omega)) | rfl) | exact Cel.rds (by with_reducible (repeat first | apply In.here | apply In.there)) (getML (d := (0 : UInt16)) (by ((try simp only [List.length_set, List.length_map, List.length_append, List.length_replicate, List.size_toArray, List.length_cons, List.length_nil, Array.size_setIfInBounds]); omega))) | exact Cel.rdsB (by with_reducible (repeat first | apply In.here | apply In.there)) (getML (d := (0 : UInt16)) (by ((try simp only [List.length_set, List.length_map, List.length_append, List.length_replicate, List.size_toArray, List.length_cons, List.length_nil, Array.size_setIfInBounds]); omega))) | exact Cel.owns (by with_reducible (repeat first | apply In.here | apply In.there)) (getML (d := (0 : UInt16)) (by ((try simp only [List.length_set, List.length_map, List.length_append, List.length_replicate, List.size_toArray, List.length_cons, List.length_nil, Array.size_setIfInBounds]); omega))) | exact Cel.reads (by assumption) (by with_reducible (repeat first | apply In.here | apply In.there)) (getML (d := (0 : UInt16)) (by ((try simp only [List.length_set, List.length_map, List.length_append, List.length_replicate, List.size_toArray, List.length_cons, List.length_nil, Array.size_setIfInBounds]); omega))) | exact Cel.rds0 (by with_reducible (repeat first | apply In.here | apply In.there)) (getML (d := (0 : UInt16)) (by ((try simp only [List.length_set, List.length_map, List.length_append, List.length_replicate, List.size_toArray, List.length_cons, List.length_nil, Array.size_setIfInBounds]); omega))) | exact Cel.owns0 (by with_reducible (repeat first | apply In.here | apply In.there)) (getML (d := (0 : UInt16)) (by ((try simp only [List.length_set, List.length_map, List.length_append, List.length_replicate, List.size_toArray, List.length_cons, List.length_nil, Array.size_setIfInBounds]); omega)))))) ?_
      rintro _ _ ⟨rfl, rfl⟩
      refine ⟨Or.inr (by repeat first | exact holds_nil | refine holds_cons (by with_reducible (repeat first | apply In.here | apply In.there)) ?_), ?_⟩
      refine TA.takeP 3 rfl rfl rfl rfl (by kernel_rfl) (by kernel_rfl) (by kernel_rfl) rfl (fun _ _ _ h => h) (Y.bin rfl rfl rfl (br_xor16 (y := 8466))) ?_
      refine TA.takeP 4 rfl rfl rfl rfl (by kernel_rfl) (by kernel_rfl) (by kernel_rfl) rfl (fun _ _ _ h => h) (Y.conv rfl Try.underlying44 Try.underlying3 rfl (cv_16_N)) ?_
      refine TA.any (rs := [5, 7]) (by kernel_rfl) (by simp) ?_
      simp only [List.forall_mem_cons, List.not_mem_nil, false_implies, implies_true, and_true]
      refine ⟨?_, ?_⟩
      · skip
        refine TAo.eff rfl rfl rfl rfl (X.call rfl Try.func30 (by kernel_rfl) rfl rfl (Fn.preE (by repeat first | (with_reducible apply Ent.refl) | (apply Ent.cons; case h => first | (with_reducible (repeat first | apply Pull.here | apply Pull.there); done) | (repeat first | apply Pull.here | apply Pull.there))) (r1.Two_fn _ (by omega) _))) ?_
        rintro _ _ ⟨g8, rfl, rfl⟩
        refine ⟨(Or.inr (by repeat first | exact holds_nil | refine holds_cons (by with_reducible (repeat first | apply In.here | apply In.there)) ?_)), ?_⟩
        refine TA.one 7 (by kernel_rfl) rfl rfl rfl rfl (Eff.val (fun _ h => by cases h) (Y.load rfl sc45 rfl (by first | exact Cel.datAt0 (by with_reducible (repeat first | apply In.here | apply In.there)) (by assumption) (by rfl) | exact Cel.datAt (by with_reducible (repeat first | apply In.here | apply In.there)) (by assumption) (by rfl) | exact Cel.datAtS (by with_reducible (repeat first | apply In.here | apply In.there)) (by assumption) (by rfl) | exact Cel.blk (by with_reducible (repeat first | apply In.here | apply In.there)) (by first | exact getM (d := (0 : UInt32)) (by ((try simp only [List.length_set, List.length_map, List.length_append, List.length_replicate, List.size_toArray, List.length_cons, List.length_nil, Array.size_setIfInBounds]); omega)) | rfl) | exact Cel.rblk (by with_reducible (repeat first | apply In.here | apply In.there)) (by first | exact getM (d := (0 : UInt32)) (by ((try simp only [List.length_set, List.length_map, List.length_append, List.length_replicate, List.size_toArray, List.length_cons, List.length_nil, Array.size_setIfInBounds]); omega)) | rfl) | exact Cel.rds (by with_reducible (repeat first | apply In.here | apply In.there)) (getML (d := (0 : UInt32)) (by ((try simp only [List.length_set, List.length_map, List.length_append, List.length_replicate, List.size_toArray, List.length_cons, List.length_nil, Array.size_setIfInBounds]); omega))) | exact Cel.rdsB (by with_reducible (repeat first | apply In.here | apply In.there)) (getML (d := (0 : UInt32)) (by ((try simp only [List.length_set, List.length_map, List.length_append, List.length_replicate, List.size_toArray, List.length_cons, List.length_nil, Array.size_setIfInBounds]); omega))) | exact Cel.owns (by with_reducible (repeat first | apply In.here | apply In.there)) (getML (d := (0 : UInt32)) (by ((try simp only [List.length_set, List.length_map, List.length_append, List.length_replicate, List.size_toArray, List.length_cons, List.length_nil, Array.size_setIfInBounds]); omega))) | exact Cel.reads (by assumption) (by with_reducible (repeat first | apply In.here | apply In.there)) (getML (d := (0 : UInt32)) (by ((try simp only [List.length_set, List.length_map, List.length_append, List.length_replicate, List.size_toArray, List.length_cons, List.length_nil, Array.size_setIfInBounds]); omega))) | exact Cel.rds0 (by with_reducible (repeat first | apply In.here | apply In.there)) (getML (d := (0 : UInt32)) (by ((try simp only [List.length_set, List.length_map, List.length_append, List.length_replicate, List.size_toArray, List.length_cons, List.length_nil, Array.size_setIfInBounds]); omega))) | exact Cel.owns0 (by with_reducible (repeat first | apply In.here | apply In.there)) (getML (d := (0 : UInt32)) (by ((try simp only [List.length_set, List.length_map, List.length_append, List.length_replicate, List.size_toArray, List.length_cons, List.length_nil, Array.size_setIfInBounds]); omega)))))) ?_
        rintro _ _ ⟨rfl, rfl⟩
        refine ⟨Or.inr (by repeat first | exact holds_nil | refine holds_cons (by with_reducible (repeat first | apply In.here | apply In.there)) ?_), ?_⟩
        refine TA.takeP 8 rfl rfl rfl rfl (by kernel_rfl) (by kernel_rfl) (by kernel_rfl) rfl (fun _ _ _ h => h) (Y.bin rfl rfl rfl (br_xor32 (y := 554869826))) ?_
        refine TA.one 9 (by kernel_rfl) rfl rfl rfl rfl (X.call rfl Try.func31 (by kernel_rfl) rfl rfl (Fn.preE (by repeat first | (with_reducible apply Ent.refl) | (apply Ent.cons; case h => first | (with_reducible (repeat first | apply Pull.here | apply Pull.there); done) | (repeat first | apply Pull.here | apply Pull.there))) (r1.Four_fn _ _))) ?_
        rintro _ _ ⟨g12, rfl, rfl⟩
        refine ⟨(Or.inr (by repeat first | exact holds_nil | refine holds_cons (by with_reducible (repeat first | apply In.here | apply In.there)) ?_)), ?_⟩
        refine TA.one 10 (by kernel_rfl) rfl rfl rfl rfl (X.lit rfl el89 rfl rfl rfl (by decide) rfl) ?_
        rintro _ _ ⟨g13, rfl, rfl⟩
        refine ⟨(Or.inr (by repeat first | exact holds_nil | refine holds_cons (by with_reducible (repeat first | apply In.here | apply In.there)) ?_)), ?_⟩
        refine TA.to Ent.bsNil ?_
        refine TA.to (Ent.bsPull (a := some ⟨g12, 0, none⟩) (by first | (with_reducible (repeat first | apply Pull.here | apply Pull.there); done) | (repeat first | apply Pull.here | apply Pull.there)) (by first | (with_reducible (repeat first | apply Pull.here | apply Pull.there); done) | (repeat first | apply Pull.here | apply Pull.there)) (l := be4 (ip ^^^ 554869826)) rfl rfl) ?_
        refine TA.to (Ent.bsPull (a := some ⟨g8, 0, none⟩) (by first | (with_reducible (repeat first | apply Pull.here | apply Pull.there); done) | (repeat first | apply Pull.here | apply Pull.there)) (by first | (with_reducible (repeat first | apply Pull.here | apply Pull.there); done) | (repeat first | apply Pull.here | apply Pull.there)) (l := be2 (port ^^^ 8466).toNat) rfl rfl) ?_
        refine TA.to (Ent.bsPull (a := some ⟨g3, 0, none⟩) (by first | (with_reducible (repeat first | apply Pull.here | apply Pull.there); done) | (repeat first | apply Pull.here | apply Pull.there)) (by first | (with_reducible (repeat first | apply Pull.here | apply Pull.there); done) | (repeat first | apply Pull.here | apply Pull.there)) (l := [0, 1]) rfl rfl) ?_
        refine TA.to (Ent.mkJoin (by first | (with_reducible (repeat first | apply Pull.here | apply Pull.there); done) | (repeat first | apply Pull.here | apply Pull.there)) (by first | (with_reducible (repeat first | apply Pull.here | apply Pull.there); done) | (repeat first | apply Pull.here | apply Pull.there)) rfl rfl) ?_
        refine TA.one 11 (by kernel_rfl) rfl rfl rfl rfl (X.call rfl Try.func29 (by kernel_rfl) rfl rfl (Fn.preE (by repeat first | (with_reducible apply Ent.refl) | (apply Ent.cons; case h => first | (with_reducible (repeat first | apply Pull.here | apply Pull.there); done) | (repeat first | apply Pull.here | apply Pull.there))) (r1.Join_fn _ _ [⟨some ⟨g3, 0, none⟩, 2, [0, 1]⟩, ⟨some ⟨g8, 0, none⟩, 2, be2 (port ^^^ 8466).toNat⟩, ⟨some ⟨g12, 0, none⟩, 4, be4 (ip ^^^ 554869826)⟩] (by simp [r1.flat, be2_len, be4_len]) _))) ?_
        rintro _ _ ⟨a14, c14, rfl, rfl⟩
        rw [show r1.flat [⟨some ⟨g3, 0, none⟩, 2, [0, 1]⟩, ⟨some ⟨g8, 0, none⟩, 2, be2 (port ^^^ 8466).toNat⟩, ⟨some ⟨g12, 0, none⟩, 4, be4 (ip ^^^ 554869826)⟩] = mapB ip port by rw [be2_be16]; rfl]
        refine ⟨(Or.inl (by kernel_rfl)), ?_⟩
        refine TA.takeP 12 rfl rfl rfl rfl (by kernel_rfl) (by kernel_rfl) (by kernel_rfl) rfl (fun _ _ _ h => h) (Y.assign rfl rfl) ?_
        refine TA.done (by kernel_rfl) ?_
        refine TQ.next ?_
        refine TC.ret ?_
        refine TQ.retE (res1 rfl rfl) (⟨_, _, rfl, rfl⟩) ?_
        exact (by (repeat first | (with_reducible apply Ent.refl) | (with_reducible apply Ent.nil) | refine Ent.cons (by first | (with_reducible (repeat first | apply Pull.here | apply Pull.there); done) | (repeat first | apply Pull.here | apply Pull.there)) ?_ | refine Ent.skip ?_))
      · skip
        refine TAo.eff rfl rfl rfl rfl (Eff.val (fun _ h => by cases h) (Y.load rfl sc45 rfl (by first | exact Cel.datAt0 (by with_reducible (repeat first | apply In.here | apply In.there)) (by assumption) (by rfl) | exact Cel.datAt (by with_reducible (repeat first | apply In.here | apply In.there)) (by assumption) (by rfl) | exact Cel.datAtS (by with_reducible (repeat first | apply In.here | apply In.there)) (by assumption) (by rfl) | exact Cel.blk (by with_reducible (repeat first | apply In.here | apply In.there)) (by first | exact getM (d := (0 : UInt32)) (by ((try simp only [List.length_set, List.length_map, List.length_append, List.length_replicate, List.size_toArray, List.length_cons, List.length_nil, Array.size_setIfInBounds]); omega)) | rfl) | exact Cel.rblk (by with_reducible (repeat first | apply In.here | apply In.there)) (by first | exact getM (d := (0 : UInt32)) (by ((try simp only [List.length_set, List.length_map, List.length_append, List.length_replicate, List.size_toArray, List.length_cons, List.length_nil, Array.size_setIfInBounds]); omega)) | rfl) | exact Cel.rds (by with_reducible (repeat first | apply In.here | apply In.there)) (getML (d := (0 : UInt32)) (by ((try simp only [List.length_set, List.length_map, List.length_append, List.length_replicate, List.size_toArray, List.length_cons, List.length_nil, Array.size_setIfInBounds]); omega))) | exact Cel.rdsB (by with_reducible (repeat first | apply In.here | apply In.there)) (getML (d := (0 : UInt32)) (by ((try simp only [List.length_set, List.length_map, List.length_append, List.length_replicate, List.size_toArray, List.length_cons, List.length_nil, Array.size_setIfInBounds]); omega))) | exact Cel.owns (by with_reducible (repeat first | apply In.here | apply In.there)) (getML (d := (0 : UInt32)) (by ((try simp only [List.length_set, List.length_map, List.length_append, List.length_replicate, List.size_toArray, List.length_cons, List.length_nil, Array.size_setIfInBounds]); omega))) | exact Cel.reads (by assumption) (by with_reducible (repeat first | apply In.here | apply In.there)) (getML (d := (0 : UInt32)) (by ((try simp only [List.length_set, List.length_map, List.length_append, List.length_replicate, List.size_toArray, List.length_cons, List.length_nil, Array.size_setIfInBounds]); omega))) | exact Cel.rds0 (by with_reducible (repeat first | apply In.here | apply In.there)) (getML (d := (0 : UInt32)) (by ((try simp only [List.length_set, List.length_map, List.length_append, List.length_replicate, List.size_toArray, List.length_cons, List.length_nil, Array.size_setIfInBounds]); omega))) | exact Cel.owns0 (by with_reducible (repeat first | apply In.here | apply In.there)) (getML (d := (0 : UInt32)) (by ((try simp only [List.length_set, List.length_map, List.length_append, List.length_replicate, List.size_toArray, List.length_cons, List.length_nil, Array.size_setIfInBounds]); omega)))))) ?_
        rintro _ _ ⟨rfl, rfl⟩
        refine ⟨Or.inr (by repeat first | exact holds_nil | refine holds_cons (by with_reducible (repeat first | apply In.here | apply In.there)) ?_), ?_⟩
        refine TA.takeP 8 rfl rfl rfl rfl (by kernel_rfl) (by kernel_rfl) (by kernel_rfl) rfl (fun _ _ _ h => h) (Y.bin rfl rfl rfl (br_xor32 (y := 554869826))) ?_
        refine TA.one 5 (by kernel_rfl) rfl rfl rfl rfl (X.call rfl Try.func30 (by kernel_rfl) rfl rfl (Fn.preE (by repeat first | (with_reducible apply Ent.refl) | (apply Ent.cons; case h => first | (with_reducible (repeat first | apply Pull.here | apply Pull.there); done) | (repeat first | apply Pull.here | apply Pull.there))) (r1.Two_fn _ (by omega) _))) ?_
        rintro _ _ ⟨g8, rfl, rfl⟩
        refine ⟨(Or.inr (by repeat first | exact holds_nil | refine holds_cons (by with_reducible (repeat first | apply In.here | apply In.there)) ?_)), ?_⟩
        refine TA.one 9 (by kernel_rfl) rfl rfl rfl rfl (X.call rfl Try.func31 (by kernel_rfl) rfl rfl (Fn.preE (by repeat first | (with_reducible apply Ent.refl) | (apply Ent.cons; case h => first | (with_reducible (repeat first | apply Pull.here | apply Pull.there); done) | (repeat first | apply Pull.here | apply Pull.there))) (r1.Four_fn _ _))) ?_
        rintro _ _ ⟨g12, rfl, rfl⟩
        refine ⟨(Or.inr (by repeat first | exact holds_nil | refine holds_cons (by with_reducible (repeat first | apply In.here | apply In.there)) ?_)), ?_⟩
        refine TA.one 10 (by kernel_rfl) rfl rfl rfl rfl (X.lit rfl el89 rfl rfl rfl (by decide) rfl) ?_
        rintro _ _ ⟨g13, rfl, rfl⟩
        refine ⟨(Or.inr (by repeat first | exact holds_nil | refine holds_cons (by with_reducible (repeat first | apply In.here | apply In.there)) ?_)), ?_⟩
        refine TA.to Ent.bsNil ?_
        refine TA.to (Ent.bsPull (a := some ⟨g12, 0, none⟩) (by first | (with_reducible (repeat first | apply Pull.here | apply Pull.there); done) | (repeat first | apply Pull.here | apply Pull.there)) (by first | (with_reducible (repeat first | apply Pull.here | apply Pull.there); done) | (repeat first | apply Pull.here | apply Pull.there)) (l := be4 (ip ^^^ 554869826)) rfl rfl) ?_
        refine TA.to (Ent.bsPull (a := some ⟨g8, 0, none⟩) (by first | (with_reducible (repeat first | apply Pull.here | apply Pull.there); done) | (repeat first | apply Pull.here | apply Pull.there)) (by first | (with_reducible (repeat first | apply Pull.here | apply Pull.there); done) | (repeat first | apply Pull.here | apply Pull.there)) (l := be2 (port ^^^ 8466).toNat) rfl rfl) ?_
        refine TA.to (Ent.bsPull (a := some ⟨g3, 0, none⟩) (by first | (with_reducible (repeat first | apply Pull.here | apply Pull.there); done) | (repeat first | apply Pull.here | apply Pull.there)) (by first | (with_reducible (repeat first | apply Pull.here | apply Pull.there); done) | (repeat first | apply Pull.here | apply Pull.there)) (l := [0, 1]) rfl rfl) ?_
        refine TA.to (Ent.mkJoin (by first | (with_reducible (repeat first | apply Pull.here | apply Pull.there); done) | (repeat first | apply Pull.here | apply Pull.there)) (by first | (with_reducible (repeat first | apply Pull.here | apply Pull.there); done) | (repeat first | apply Pull.here | apply Pull.there)) rfl rfl) ?_
        refine TA.one 11 (by kernel_rfl) rfl rfl rfl rfl (X.call rfl Try.func29 (by kernel_rfl) rfl rfl (Fn.preE (by repeat first | (with_reducible apply Ent.refl) | (apply Ent.cons; case h => first | (with_reducible (repeat first | apply Pull.here | apply Pull.there); done) | (repeat first | apply Pull.here | apply Pull.there))) (r1.Join_fn _ _ [⟨some ⟨g3, 0, none⟩, 2, [0, 1]⟩, ⟨some ⟨g8, 0, none⟩, 2, be2 (port ^^^ 8466).toNat⟩, ⟨some ⟨g12, 0, none⟩, 4, be4 (ip ^^^ 554869826)⟩] (by simp [r1.flat, be2_len, be4_len]) _))) ?_
        rintro _ _ ⟨a14, c14, rfl, rfl⟩
        rw [show r1.flat [⟨some ⟨g3, 0, none⟩, 2, [0, 1]⟩, ⟨some ⟨g8, 0, none⟩, 2, be2 (port ^^^ 8466).toNat⟩, ⟨some ⟨g12, 0, none⟩, 4, be4 (ip ^^^ 554869826)⟩] = mapB ip port by rw [be2_be16]; rfl]
        refine ⟨(Or.inl (by kernel_rfl)), ?_⟩
        refine TA.takeP 12 rfl rfl rfl rfl (by kernel_rfl) (by kernel_rfl) (by kernel_rfl) rfl (fun _ _ _ h => h) (Y.assign rfl rfl) ?_
        refine TA.done (by kernel_rfl) ?_
        refine TQ.next ?_
        refine TC.ret ?_
        refine TQ.retE (res1 rfl rfl) (⟨_, _, rfl, rfl⟩) ?_
        exact (by (repeat first | (with_reducible apply Ent.refl) | (with_reducible apply Ent.nil) | refine Ent.cons (by first | (with_reducible (repeat first | apply Pull.here | apply Pull.there); done) | (repeat first | apply Pull.here | apply Pull.there)) ?_ | refine Ent.skip ?_))
    · skip
      refine TAo.eff rfl rfl rfl rfl (Eff.val (fun _ h => by cases h) (Y.load rfl sc45 rfl (by first | exact Cel.datAt0 (by with_reducible (repeat first | apply In.here | apply In.there)) (by assumption) (by rfl) | exact Cel.datAt (by with_reducible (repeat first | apply In.here | apply In.there)) (by assumption) (by rfl) | exact Cel.datAtS (by with_reducible (repeat first | apply In.here | apply In.there)) (by assumption) (by rfl) | exact Cel.blk (by with_reducible (repeat first | apply In.here | apply In.there)) (by first | exact getM (d := (0 : UInt32)) (by ((try simp only [List.length_set, List.length_map, List.length_append, List.length_replicate, List.size_toArray, List.length_cons, List.length_nil, Array.size_setIfInBounds]); omega)) | rfl) | exact Cel.rblk (by with_reducible (repeat first | apply In.here | apply In.there)) (by first | exact getM (d := (0 : UInt32)) (by ((try simp only [List.length_set, List.length_map, List.length_append, List.length_replicate, List.size_toArray, List.length_cons, List.length_nil, Array.size_setIfInBounds]); omega)) | rfl) | exact Cel.rds (by with_reducible (repeat first | apply In.here | apply In.there)) (getML (d := (0 : UInt32)) (by ((try simp only [List.length_set, List.length_map, List.length_append, List.length_replicate, List.size_toArray, List.length_cons, List.length_nil, Array.size_setIfInBounds]); omega))) | exact Cel.rdsB (by with_reducible (repeat first | apply In.here | apply In.there)) (getML (d := (0 : UInt32)) (by ((try simp only [List.length_set, List.length_map, List.length_append, List.length_replicate, List.size_toArray, List.length_cons, List.length_nil, Array.size_setIfInBounds]); omega))) | exact Cel.owns (by with_reducible (repeat first | apply In.here | apply In.there)) (getML (d := (0 : UInt32)) (by ((try simp only [List.length_set, List.length_map, List.length_append, List.length_replicate, List.size_toArray, List.length_cons, List.length_nil, Array.size_setIfInBounds]); omega))) | exact Cel.reads (by assumption) (by with_reducible (repeat first | apply In.here | apply In.there)) (getML (d := (0 : UInt32)) (by ((try simp only [List.length_set, List.length_map, List.length_append, List.length_replicate, List.size_toArray, List.length_cons, List.length_nil, Array.size_setIfInBounds]); omega))) | exact Cel.rds0 (by with_reducible (repeat first | apply In.here | apply In.there)) (getML (d := (0 : UInt32)) (by ((try simp only [List.length_set, List.length_map, List.length_append, List.length_replicate, List.size_toArray, List.length_cons, List.length_nil, Array.size_setIfInBounds]); omega))) | exact Cel.owns0 (by with_reducible (repeat first | apply In.here | apply In.there)) (getML (d := (0 : UInt32)) (by ((try simp only [List.length_set, List.length_map, List.length_append, List.length_replicate, List.size_toArray, List.length_cons, List.length_nil, Array.size_setIfInBounds]); omega)))))) ?_
      rintro _ _ ⟨rfl, rfl⟩
      refine ⟨Or.inr (by repeat first | exact holds_nil | refine holds_cons (by with_reducible (repeat first | apply In.here | apply In.there)) ?_), ?_⟩
      refine TA.takeP 8 rfl rfl rfl rfl (by kernel_rfl) (by kernel_rfl) (by kernel_rfl) rfl (fun _ _ _ h => h) (Y.bin rfl rfl rfl (br_xor32 (y := 554869826))) ?_
      refine TA.one 2 (by kernel_rfl) rfl rfl rfl rfl (Eff.val (fun _ h => by cases h) (Y.load rfl sc44 rfl (by first | exact Cel.datAt0 (by with_reducible (repeat first | apply In.here | apply In.there)) (by assumption) (by rfl) | exact Cel.datAt (by with_reducible (repeat first | apply In.here | apply In.there)) (by assumption) (by rfl) | exact Cel.datAtS (by with_reducible (repeat first | apply In.here | apply In.there)) (by assumption) (by rfl) | exact Cel.blk (by with_reducible (repeat first | apply In.here | apply In.there)) (by first | exact getM (d := (0 : UInt16)) (by ((try simp only [List.length_set, List.length_map, List.length_append, List.length_replicate, List.size_toArray, List.length_cons, List.length_nil, Array.size_setIfInBounds]); omega)) | rfl) | exact Cel.rblk (by with_reducible (repeat first | apply In.here | apply In.there)) (by first | exact getM (d := (0 : UInt16)) (by ((try simp only [List.length_set, List.length_map, List.length_append, List.length_replicate, List.size_toArray, List.length_cons, List.length_nil, Array.size_setIfInBounds]); omega)) | rfl) | exact Cel.rds (by with_reducible (repeat first | apply In.here | apply In.there)) (getML (d := (0 : UInt16)) (by ((try simp only [List.length_set, List.length_map, List.length_append, List.length_replicate, List.size_toArray, List.length_cons, List.length_nil, Array.size_setIfInBounds]); omega))) | exact Cel.rdsB (by with_reducible (repeat first | apply In.here | apply In.there)) (getML (d := (0 : UInt16)) (by ((try simp only [List.length_set, List.length_map, List.length_append, List.length_replicate, List.size_toArray, List.length_cons, List.length_nil, Array.size_setIfInBounds]); omega))) | exact Cel.owns (by with_reducible (repeat first | apply In.here | apply In.there)) (getML (d := (0 : UInt16)) (by ((try simp only [List.length_set, List.length_map, List.length_append, List.length_replicate, List.size_toArray, List.length_cons, List.length_nil, Array.size_setIfInBounds]); omega))) | exact Cel.reads (by assumption) (by with_reducible (repeat first | apply In.here | apply In.there)) (getML (d := (0 : UInt16)) (by ((try simp only [List.length_set, List.length_map, List.length_append, List.length_replicate, List.size_toArray, List.length_cons, List.length_nil, Array.size_setIfInBounds]); omega))) | exact Cel.rds0 (by with_reducible (repeat first | apply In.here | apply In.there)) (getML (d := (0 : UInt16)) (by ((try simp only [List.length_set, List.length_map, List.length_append, List.length_replicate, List.size_toArray, List.length_cons, List.length_nil, Array.size_setIfInBounds]); omega))) | exact Cel.owns0 (by with_reducible (repeat first | apply In.here | apply In.there)) (getML (d := (0 : UInt16)) (by ((try simp only [List.length_set, List.length_map, List.length_append, List.length_replicate, List.size_toArray, List.length_cons, List.length_nil, Array.size_setIfInBounds]); omega)))))) ?_
      rintro _ _ ⟨rfl, rfl⟩
      refine ⟨Or.inr (by repeat first | exact holds_nil | refine holds_cons (by with_reducible (repeat first | apply In.here | apply In.there)) ?_), ?_⟩
      refine TA.takeP 3 rfl rfl rfl rfl (by kernel_rfl) (by kernel_rfl) (by kernel_rfl) rfl (fun _ _ _ h => h) (Y.bin rfl rfl rfl (br_xor16 (y := 8466))) ?_
      refine TA.takeP 4 rfl rfl rfl rfl (by kernel_rfl) (by kernel_rfl) (by kernel_rfl) rfl (fun _ _ _ h => h) (Y.conv rfl Try.underlying44 Try.underlying3 rfl (cv_16_N)) ?_
      refine TA.one 5 (by kernel_rfl) rfl rfl rfl rfl (X.call rfl Try.func30 (by kernel_rfl) rfl rfl (Fn.preE (by repeat first | (with_reducible apply Ent.refl) | (apply Ent.cons; case h => first | (with_reducible (repeat first | apply Pull.here | apply Pull.there); done) | (repeat first | apply Pull.here | apply Pull.there))) (r1.Two_fn _ (by omega) _))) ?_
      rintro _ _ ⟨g8, rfl, rfl⟩
      refine ⟨(Or.inr (by repeat first | exact holds_nil | refine holds_cons (by with_reducible (repeat first | apply In.here | apply In.there)) ?_)), ?_⟩
      refine TA.one 9 (by kernel_rfl) rfl rfl rfl rfl (X.call rfl Try.func31 (by kernel_rfl) rfl rfl (Fn.preE (by repeat first | (with_reducible apply Ent.refl) | (apply Ent.cons; case h => first | (with_reducible (repeat first | apply Pull.here | apply Pull.there); done) | (repeat first | apply Pull.here | apply Pull.there))) (r1.Four_fn _ _))) ?_
      rintro _ _ ⟨g12, rfl, rfl⟩
      refine ⟨(Or.inr (by repeat first | exact holds_nil | refine holds_cons (by with_reducible (repeat first | apply In.here | apply In.there)) ?_)), ?_⟩
      refine TA.one 10 (by kernel_rfl) rfl rfl rfl rfl (X.lit rfl el89 rfl rfl rfl (by decide) rfl) ?_
      rintro _ _ ⟨g13, rfl, rfl⟩
      refine ⟨(Or.inr (by repeat first | exact holds_nil | refine holds_cons (by with_reducible (repeat first | apply In.here | apply In.there)) ?_)), ?_⟩
      refine TA.to Ent.bsNil ?_
      refine TA.to (Ent.bsPull (a := some ⟨g12, 0, none⟩) (by first | (with_reducible (repeat first | apply Pull.here | apply Pull.there); done) | (repeat first | apply Pull.here | apply Pull.there)) (by first | (with_reducible (repeat first | apply Pull.here | apply Pull.there); done) | (repeat first | apply Pull.here | apply Pull.there)) (l := be4 (ip ^^^ 554869826)) rfl rfl) ?_
      refine TA.to (Ent.bsPull (a := some ⟨g8, 0, none⟩) (by first | (with_reducible (repeat first | apply Pull.here | apply Pull.there); done) | (repeat first | apply Pull.here | apply Pull.there)) (by first | (with_reducible (repeat first | apply Pull.here | apply Pull.there); done) | (repeat first | apply Pull.here | apply Pull.there)) (l := be2 (port ^^^ 8466).toNat) rfl rfl) ?_
      refine TA.to (Ent.bsPull (a := some ⟨g3, 0, none⟩) (by first | (with_reducible (repeat first | apply Pull.here | apply Pull.there); done) | (repeat first | apply Pull.here | apply Pull.there)) (by first | (with_reducible (repeat first | apply Pull.here | apply Pull.there); done) | (repeat first | apply Pull.here | apply Pull.there)) (l := [0, 1]) rfl rfl) ?_
      refine TA.to (Ent.mkJoin (by first | (with_reducible (repeat first | apply Pull.here | apply Pull.there); done) | (repeat first | apply Pull.here | apply Pull.there)) (by first | (with_reducible (repeat first | apply Pull.here | apply Pull.there); done) | (repeat first | apply Pull.here | apply Pull.there)) rfl rfl) ?_
      refine TA.one 11 (by kernel_rfl) rfl rfl rfl rfl (X.call rfl Try.func29 (by kernel_rfl) rfl rfl (Fn.preE (by repeat first | (with_reducible apply Ent.refl) | (apply Ent.cons; case h => first | (with_reducible (repeat first | apply Pull.here | apply Pull.there); done) | (repeat first | apply Pull.here | apply Pull.there))) (r1.Join_fn _ _ [⟨some ⟨g3, 0, none⟩, 2, [0, 1]⟩, ⟨some ⟨g8, 0, none⟩, 2, be2 (port ^^^ 8466).toNat⟩, ⟨some ⟨g12, 0, none⟩, 4, be4 (ip ^^^ 554869826)⟩] (by simp [r1.flat, be2_len, be4_len]) _))) ?_
      rintro _ _ ⟨a14, c14, rfl, rfl⟩
      rw [show r1.flat [⟨some ⟨g3, 0, none⟩, 2, [0, 1]⟩, ⟨some ⟨g8, 0, none⟩, 2, be2 (port ^^^ 8466).toNat⟩, ⟨some ⟨g12, 0, none⟩, 4, be4 (ip ^^^ 554869826)⟩] = mapB ip port by rw [be2_be16]; rfl]
      refine ⟨(Or.inl (by kernel_rfl)), ?_⟩
      refine TA.takeP 12 rfl rfl rfl rfl (by kernel_rfl) (by kernel_rfl) (by kernel_rfl) rfl (fun _ _ _ h => h) (Y.assign rfl rfl) ?_
      refine TA.done (by kernel_rfl) ?_
      refine TQ.next ?_
      refine TC.ret ?_
      refine TQ.retE (res1 rfl rfl) (⟨_, _, rfl, rfl⟩) ?_
      exact (by (repeat first | (with_reducible apply Ent.refl) | (with_reducible apply Ent.nil) | refine Ent.cons (by first | (with_reducible (repeat first | apply Pull.here | apply Pull.there); done) | (repeat first | apply Pull.here | apply Pull.there)) ?_ | refine Ent.skip ?_))
  · skip
    refine TAo.eff rfl rfl rfl rfl (Eff.val (fun _ h => by cases h) (Y.load rfl sc44 rfl (by first | exact Cel.datAt0 (by with_reducible (repeat first | apply In.here | apply In.there)) (by assumption) (by rfl) | exact Cel.datAt (by with_reducible (repeat first | apply In.here | apply In.there)) (by assumption) (by rfl) | exact Cel.datAtS (by with_reducible (repeat first | apply In.here | apply In.there)) (by assumption) (by rfl) | exact Cel.blk (by with_reducible (repeat first | apply In.here | apply In.there)) (by first | exact getM (d := (0 : UInt16)) (by ((try simp only [List.length_set, List.length_map, List.length_append, List.length_replicate, List.size_toArray, List.length_cons, List.length_nil, Array.size_setIfInBounds]); omega)) | rfl) | exact Cel.rblk (by with_reducible (repeat first | apply In.here | apply In.there)) (by first | exact getM (d := (0 : UInt16)) (by ((try simp only [List.length_set, List.length_map, List.length_append, List.length_replicate, List.size_toArray, List.length_cons, List.length_nil, Array.size_setIfInBounds]); omega)) | rfl) | exact Cel.rds (by with_reducible (repeat first | apply In.here | apply In.there)) (getML (d := (0 : UInt16)) (by ((try simp only [List.length_set, List.length_map, List.length_append, List.length_replicate, List.size_toArray, List.length_cons, List.length_nil, Array.size_setIfInBounds]); omega))) | exact Cel.rdsB (by with_reducible (repeat first | apply In.here | apply In.there)) (getML (d := (0 : UInt16)) (by ((try simp only [List.length_set, List.length_map, List.length_append, List.length_replicate, List.size_toArray, List.length_cons, List.length_nil, Array.size_setIfInBounds]); omega))) | exact Cel.owns (by with_reducible (repeat first | apply In.here | apply In.there)) (getML (d := (0 : UInt16)) (by ((try simp only [List.length_set, List.length_map, List.length_append, List.length_replicate, List.size_toArray, List.length_cons, List.length_nil, Array.size_setIfInBounds]); omega))) | exact Cel.reads (by assumption) (by with_reducible (repeat first | apply In.here | apply In.there)) (getML (d := (0 : UInt16)) (by ((try simp only [List.length_set, List.length_map, List.length_append, List.length_replicate, List.size_toArray, List.length_cons, List.length_nil, Array.size_setIfInBounds]); omega))) | exact Cel.rds0 (by with_reducible (repeat first | apply In.here | apply In.there)) (getML (d := (0 : UInt16)) (by ((try simp only [List.length_set, List.length_map, List.length_append, List.length_replicate, List.size_toArray, List.length_cons, List.length_nil, Array.size_setIfInBounds]); omega))) | exact Cel.owns0 (by with_reducible (repeat first | apply In.here | apply In.there)) (getML (d := (0 : UInt16)) (by ((try simp only [List.length_set, List.length_map, List.length_append, List.length_replicate, List.size_toArray, List.length_cons, List.length_nil, Array.size_setIfInBounds]); omega)))))) ?_
    rintro _ _ ⟨rfl, rfl⟩
    refine ⟨Or.inr (by repeat first | exact holds_nil | refine holds_cons (by with_reducible (repeat first | apply In.here | apply In.there)) ?_), ?_⟩
    refine TA.takeP 3 rfl rfl rfl rfl (by kernel_rfl) (by kernel_rfl) (by kernel_rfl) rfl (fun _ _ _ h => h) (Y.bin rfl rfl rfl (br_xor16 (y := 8466))) ?_
    refine TA.takeP 4 rfl rfl rfl rfl (by kernel_rfl) (by kernel_rfl) (by kernel_rfl) rfl (fun _ _ _ h => h) (Y.conv rfl Try.underlying44 Try.underlying3 rfl (cv_16_N)) ?_
    refine TA.any (rs := [0, 5, 7]) (by kernel_rfl) (by simp) ?_
    simp only [List.forall_mem_cons, List.not_mem_nil, false_implies, implies_true, and_true]
    refine ⟨?_, ?_, ?_⟩
    · skip
      refine TAo.eff rfl rfl rfl rfl (X.lit rfl el27 rfl rfl rfl (by decide) rfl) ?_
      rintro _ _ ⟨g3, rfl, rfl⟩
      refine ⟨(Or.inr (by repeat first | exact holds_nil | refine holds_cons (by with_reducible (repeat first | apply In.here | apply In.there)) ?_)), ?_⟩
      refine TA.any (rs := [5, 7]) (by kernel_rfl) (by simp) ?_
      simp only [List.forall_mem_cons, List.not_mem_nil, false_implies, implies_true, and_true]
      refine ⟨?_, ?_⟩
      · skip
        refine TAo.eff rfl rfl rfl rfl (X.call rfl Try.func30 (by kernel_rfl) rfl rfl (Fn.preE (by repeat first | (with_reducible apply Ent.refl) | (apply Ent.cons; case h => first | (with_reducible (repeat first | apply Pull.here | apply Pull.there); done) | (repeat first | apply Pull.here | apply Pull.there))) (r1.Two_fn _ (by omega) _))) ?_
        rintro _ _ ⟨g8, rfl, rfl⟩
        refine ⟨(Or.inr (by repeat first | exact holds_nil | refine holds_cons (by with_reducible (repeat first | apply In.here | apply In.there)) ?_)), ?_⟩
        refine TA.one 7 (by kernel_rfl) rfl rfl rfl rfl (Eff.val (fun _ h => by cases h) (Y.load rfl sc45 rfl (by first | exact Cel.datAt0 (by with_reducible (repeat first | apply In.here | apply In.there)) (by assumption) (by rfl) | exact Cel.datAt (by with_reducible (repeat first | apply In.here | apply In.there)) (by assumption) (by rfl) | exact Cel.datAtS (by with_reducible (repeat first | apply In.here | apply In.there)) (by assumption) (by rfl) | exact Cel.blk (by with_reducible (repeat first | apply In.here | apply In.there)) (by first | exact getM (d := (0 : UInt32)) (by ((try simp only [List.length_set, List.length_map, List.length_append, List.length_replicate, List.size_toArray, List.length_cons, List.length_nil, Array.size_setIfInBounds]); omega)) | rfl) | exact Cel.rblk (by with_reducible (repeat first | apply In.here | apply In.there)) (by first | exact getM (d := (0 : UInt32)) (by ((try simp only [List.length_set, List.length_map, List.length_append, List.length_replicate, List.size_toArray, List.length_cons, List.length_nil, Array.size_setIfInBounds]); omega)) | rfl) | exact Cel.rds (by with_reducible (repeat first | apply In.here | apply In.there)) (getML (d := (0 : UInt32)) (by ((try simp only [List.length_set, List.length_map, List.length_append, List.length_replicate, List.size_toArray, List.length_cons, List.length_nil, Array.size_setIfInBounds]); omega))) | exact Cel.rdsB (by with_reducible (repeat first | apply In.here | apply In.there)) (getML (d := (0 : UInt32)) (by ((try simp only [List.length_set, List.length_map, List.length_append, List.length_replicate, List.size_toArray, List.length_cons, List.length_nil, Array.size_setIfInBounds]); omega))) | exact Cel.owns (by with_reducible (repeat first | apply In.here | apply In.there)) (getML (d := (0 : UInt32)) (by ((try simp only [List.length_set, List.length_map, List.length_append, List.length_replicate, List.size_toArray, List.length_cons, List.length_nil, Array.size_setIfInBounds]); omega))) | exact Cel.reads (by assumption) (by with_reducible (repeat first | apply In.here | apply In.there)) (getML (d := (0 : UInt32)) (by ((try simp only [List.length_set, List.length_map, List.length_append, List.length_replicate, List.size_toArray, List.length_cons, List.length_nil, Array.size_setIfInBounds]); omega))) | exact Cel.rds0 (by with_reducible (repeat first | apply In.here | apply In.there)) (getML (d := (0 : UInt32)) (by ((try simp only [List.length_set, List.length_map, List.length_append, List.length_replicate, List.size_toArray, List.length_cons, List.length_nil, Array.size_setIfInBounds]); omega))) | exact Cel.owns0 (by with_reducible (repeat first | apply In.here | apply In.there)) (getML (d := (0 : UInt32)) (by ((try simp only [List.length_set, List.length_map, List.length_append, List.length_replicate, List.size_toArray, List.length_cons, List.length_nil, Array.size_setIfInBounds]); omega)))))) ?_
        rintro _ _ ⟨rfl, rfl⟩
        refine ⟨Or.inr (by repeat first | exact holds_nil | refine holds_cons (by with_reducible (repeat first | apply In.here | apply In.there)) ?_), ?_⟩
        refine TA.takeP 8 rfl rfl rfl rfl (by kernel_rfl) (by kernel_rfl) (by kernel_rfl) rfl (fun _ _ _ h => h) (Y.bin rfl rfl rfl (br_xor32 (y := 554869826))) ?_
        refine TA.one 9 (by kernel_rfl) rfl rfl rfl rfl (X.call rfl Try.func31 (by kernel_rfl) rfl rfl (Fn.preE (by repeat first | (with_reducible apply Ent.refl) | (apply Ent.cons; case h => first | (with_reducible (repeat first | apply Pull.here | apply Pull.there); done) | (repeat first | apply Pull.here | apply Pull.there))) (r1.Four_fn _ _))) ?_
        rintro _ _ ⟨g12, rfl, rfl⟩
        refine ⟨(Or.inr (by repeat first | exact holds_nil | refine holds_cons (by with_reducible (repeat first | apply In.here | apply In.there)) ?_)), ?_⟩
        refine TA.one 10 (by kernel_rfl) rfl rfl rfl rfl (X.lit rfl el89 rfl rfl rfl (by decide) rfl) ?_
        rintro _ _ ⟨g13, rfl, rfl⟩
        refine ⟨(Or.inr (by repeat first | exact holds_nil | refine holds_cons (by with_reducible (repeat first | apply In.here | apply In.there)) ?_)), ?_⟩
        refine TA.to Ent.bsNil ?_
        refine TA.to (Ent.bsPull (a := some ⟨g12, 0, none⟩) (by first | (with_reducible (repeat first | apply Pull.here | apply Pull.there); done) | (repeat first | apply Pull.here | apply Pull.there)) (by first | (with_reducible (repeat first | apply Pull.here | apply Pull.there); done) | (repeat first | apply Pull.here | apply Pull.there)) (l := be4 (ip ^^^ 554869826)) rfl rfl) ?_
        refine TA.to (Ent.bsPull (a := some ⟨g8, 0, none⟩) (by first | (with_reducible (repeat first | apply Pull.here | apply Pull.there); done) | (repeat first | apply Pull.here | apply Pull.there)) (by first | (with_reducible (repeat first | apply Pull.here | apply Pull.there); done) | (repeat first | apply Pull.here | apply Pull.there)) (l := be2 (port ^^^ 8466).toNat) rfl rfl) ?_
        refine TA.to (Ent.bsPull (a := some ⟨g3, 0, none⟩) (by first | (with_reducible (repeat first | apply Pull.here | apply Pull.there); done) | (repeat first | apply Pull.here | apply Pull.there)) (by first | (with_reducible (repeat first | apply Pull.here | apply Pull.there); done) | (repeat first | apply Pull.here | apply Pull.there)) (l := [0, 1]) rfl rfl) ?_
        refine TA.to (Ent.mkJoin (by first | (with_reducible (repeat first | apply Pull.here | apply Pull.there); done) | (repeat first | apply Pull.here | apply Pull.there)) (by first | (with_reducible (repeat first | apply Pull.here | apply Pull.there); done) | (repeat first | apply Pull.here | apply Pull.there)) rfl rfl) ?_
        refine TA.one 11 (by kernel_rfl) rfl rfl rfl rfl (X.call rfl Try.func29 (by kernel_rfl) rfl rfl (Fn.preE (by repeat first | (with_reducible apply Ent.refl) | (apply Ent.cons; case h => first | (with_reducible (repeat first | apply Pull.here | apply Pull.there); done) | (repeat first | apply Pull.here | apply Pull.there))) (r1.Join_fn _ _ [⟨some ⟨g3, 0, none⟩, 2, [0, 1]⟩, ⟨some ⟨g8, 0, none⟩, 2, be2 (port ^^^ 8466).toNat⟩, ⟨some ⟨g12, 0, none⟩, 4, be4 (ip ^^^ 554869826)⟩] (by simp [r1.flat, be2_len, be4_len]) _))) ?_
        rintro _ _ ⟨a14, c14, rfl, rfl⟩
        rw [show r1.flat [⟨some ⟨g3, 0, none⟩, 2, [0, 1]⟩, ⟨some ⟨g8, 0, none⟩, 2, be2 (port ^^^ 8466).toNat⟩, ⟨some ⟨g12, 0, none⟩, 4, be4 (ip ^^^ 554869826)⟩] = mapB ip port by rw [be2_be16]; rfl]
        refine ⟨(Or.inl (by kernel_rfl)), ?_⟩
        refine TA.takeP 12 rfl rfl rfl rfl (by kernel_rfl) (by kernel_rfl) (by kernel_rfl) rfl (fun _ _ _ h => h) (Y.assign rfl rfl) ?_
        refine TA.done (by kernel_rfl) ?_
        refine TQ.next ?_
        refine TC.ret ?_
        refine TQ.retE (res1 rfl rfl) (⟨_, _, rfl, rfl⟩) ?_
        exact (by (repeat first | (with_reducible apply Ent.refl) | (with_reducible apply Ent.nil) | refine Ent.cons (by first | (with_reducible (repeat first | apply Pull.here | apply Pull.there); done) | (repeat first | apply Pull.here | apply Pull.there)) ?_ | refine Ent.skip ?_))
      · skip
        refine TAo.eff rfl rfl rfl rfl (Eff.val (fun _ h => by cases h) (Y.load rfl sc45 rfl (by first | exact Cel.datAt0 (by with_reducible (repeat first | apply In.here | apply In.there)) (by assumption) (by rfl) | exact Cel.datAt (by with_reducible (repeat first | apply In.here | apply In.there)) (by assumption) (by rfl) | exact Cel.datAtS (by with_reducible (repeat first | apply In.here | apply In.there)) (by assumption) (by rfl) | exact Cel.blk (by with_reducible (repeat first | apply In.here | apply In.there)) (by first | exact getM (d := (0 : UInt32)) (by ((try simp only [List.length_set, List.length_map, List.length_append, List.length_replicate, List.size_toArray, List.length_cons, List.length_nil, Array.size_setIfInBounds]); omega)) | rfl) | exact Cel.rblk (by with_reducible (repeat first | apply In.here | apply In.there)) (by first | exact getM (d := (0 : UInt32)) (by ((try simp only [List.length_set, List.length_map, List.length_append, List.length_replicate, List.size_toArray, List.length_cons, List.length_nil, Array.size_setIfInBounds]); omega)) | rfl) | exact Cel.rds (by with_reducible (repeat first | apply In.here | apply In.there)) (getML (d := (0 : UInt32)) (by ((try simp only [List.length_set, List.length_map, List.length_append, List.length_replicate, List.size_toArray, List.length_cons, List.length_nil, Array.size_setIfInBounds]); omega))) | exact Cel.rdsB (by with_reducible (repeat first | apply In.here | apply In.there)) (getML (d := (0 : UInt32)) (by ((try simp only [List.length_set, List.length_map, List.length_append, List.length_replicate, List.size_toArray, List.length_cons, List.length_nil, Array.size_setIfInBounds]); omega))) | exact Cel.owns (by with_reducible (repeat first | apply In.here | apply In.there)) (getML (d := (0 : UInt32)) (by ((try simp only [List.length_set, List.length_map, List.length_append, List.length_replicate, List.size_toArray, List.length_cons, List.length_nil, Array.size_setIfInBounds]); omega))) | exact Cel.reads (by assumption) (by with_reducible (repeat first | apply In.here | apply In.there)) (getML (d := (0 : UInt32)) (by ((try simp only [List.length_set, List.length_map, List.length_append, List.length_replicate, List.size_toArray, List.length_cons, List.length_nil, Array.size_setIfInBounds]); omega))) | exact Cel.rds0 (by with_reducible (repeat first | apply In.here | apply In.there)) (getML (d := (0 : UInt32)) (by ((try simp only [List.length_set, List.length_map, List.length_append, List.length_replicate, List.size_toArray, List.length_cons, List.length_nil, Array.size_setIfInBounds]); omega))) | exact Cel.owns0 (by with_reducible (repeat first | apply In.here | apply In.there)) (getML (d := (0 : UInt32)) (by ((try simp only [List.length_set, List.length_map, List.length_append, List.length_replicate, List.size_toArray, List.length_cons, List.length_nil, Array.size_setIfInBounds]); omega)))))) ?_
        rintro _ _ ⟨rfl, rfl⟩
        refine ⟨Or.inr (by repeat first | exact holds_nil | refine holds_cons (by with_reducible (repeat first | apply In.here | apply In.there)) ?_), ?_⟩
        refine TA.takeP 8 rfl rfl rfl rfl (by kernel_rfl) (by kernel_rfl) (by kernel_rfl) rfl (fun _ _ _ h => h) (Y.bin rfl rfl rfl (br_xor32 (y := 554869826))) ?_
        refine TA.one 5 (by kernel_rfl) rfl rfl rfl rfl (X.call rfl Try.func30 (by kernel_rfl) rfl rfl (Fn.preE (by repeat first | (with_reducible apply Ent.refl) | (apply Ent.cons; case h => first | (with_reducible (repeat first | apply Pull.here | apply Pull.there); done) | (repeat first | apply Pull.here | apply Pull.there))) (r1.Two_fn _ (by omega) _))) ?_
        rintro _ _ ⟨g8, rfl, rfl⟩
        refine ⟨(Or.inr (by repeat first | exact holds_nil | refine holds_cons (by with_reducible (repeat first | apply In.here | apply In.there)) ?_)), ?_⟩
        refine TA.one 9 (by kernel_rfl) rfl rfl rfl rfl (X.call rfl Try.func31 (by kernel_rfl) rfl rfl (Fn.preE (by repeat first | (with_reducible apply Ent.refl) | (apply Ent.cons; case h => first | (with_reducible (repeat first | apply Pull.here | apply Pull.there); done) | (repeat first | apply Pull.here | apply Pull.there))) (r1.Four_fn _ _))) ?_
        rintro _ _ ⟨g12, rfl, rfl⟩
        refine ⟨(Or.inr (by repeat first | exact holds_nil | refine holds_cons (by with_reducible (repeat first | apply In.here | apply In.there)) ?_)), ?_⟩
        refine TA.one 10 (by kernel_rfl) rfl rfl rfl rfl (X.lit rfl el89 rfl rfl rfl (by decide) rfl) ?_
        rintro _ _ ⟨g13, rfl, rfl⟩
        refine ⟨(Or.inr (by repeat first | exact holds_nil | refine holds_cons (by with_reducible (repeat first | apply In.here | apply In.there)) ?_)), ?_⟩
        refine TA.to Ent.bsNil ?_
        refine TA.to (Ent.bsPull (a := some ⟨g12, 0, none⟩) (by first | (with_reducible (repeat first | apply Pull.here | apply Pull.there); done) | (repeat first | apply Pull.here | apply Pull.there)) (by first | (with_reducible (repeat first | apply Pull.here | apply Pull.there); done) | (repeat first | apply Pull.here | apply Pull.there)) (l := be4 (ip ^^^ 554869826)) rfl rfl) ?_
        refine TA.to (Ent.bsPull (a := some ⟨g8, 0, none⟩) (by first | (with_reducible (repeat first | apply Pull.here | apply Pull.there); done) | (repeat first | apply Pull.here | apply Pull.there)) (by first | (with_reducible (repeat first | apply Pull.here | apply Pull.there); done) | (repeat first | apply Pull.here | apply Pull.there)) (l := be2 (port ^^^ 8466).toNat) rfl rfl) ?_
        refine TA.to (Ent.bsPull (a := some ⟨g3, 0, none⟩) (by first | (with_reducible (repeat first | apply Pull.here | apply Pull.there); done) | (repeat first | apply Pull.here | apply Pull.there)) (by first | (with_reducible (repeat first | apply Pull.here | apply Pull.there); done) | (repeat first | apply Pull.here | apply Pull.there)) (l := [0, 1]) rfl rfl) ?_
        refine TA.to (Ent.mkJoin (by first | (with_reducible (repeat first | apply Pull.here | apply Pull.there); done) | (repeat first | apply Pull.here | apply Pull.there)) (by first | (with_reducible (repeat first | apply Pull.here | apply Pull.there); done) | (repeat first | apply Pull.here | apply Pull.there)) rfl rfl) ?_
        refine TA.one 11 (by kernel_rfl) rfl rfl rfl rfl (X.call rfl Try.func29 (by kernel_rfl) rfl rfl (Fn.preE (by repeat first | (with_reducible apply Ent.refl) | (apply Ent.cons; case h => first | (with_reducible (repeat first | apply Pull.here | apply Pull.there); done) | (repeat first | apply Pull.here | apply Pull.there))) (r1.Join_fn _ _ [⟨some ⟨g3, 0, none⟩, 2, [0, 1]⟩, ⟨some ⟨g8, 0, none⟩, 2, be2 (port ^^^ 8466).toNat⟩, ⟨some ⟨g12, 0, none⟩, 4, be4 (ip ^^^ 554869826)⟩] (by simp [r1.flat, be2_len, be4_len]) _))) ?_
        rintro _ _ ⟨a14, c14, rfl, rfl⟩
        rw [show r1.flat [⟨some ⟨g3, 0, none⟩, 2, [0, 1]⟩, ⟨some ⟨g8, 0, none⟩, 2, be2 (port ^^^ 8466).toNat⟩, ⟨some ⟨g12, 0, none⟩, 4, be4 (ip ^^^ 554869826)⟩] = mapB ip port by rw [be2_be16]; rfl]
        refine ⟨(Or.inl (by kernel_rfl)), ?_⟩
        refine TA.takeP 12 rfl rfl rfl rfl (by kernel_rfl) (by kernel_rfl) (by kernel_rfl) rfl (fun _ _ _ h => h) (Y.assign rfl rfl) ?_
        refine TA.done (by kernel_rfl) ?_
        refine TQ.next ?_
        refine TC.ret ?_
        refine TQ.retE (res1 rfl rfl) (⟨_, _, rfl, rfl⟩) ?_
        exact (by (repeat first | (with_reducible apply Ent.refl) | (with_reducible apply Ent.nil) | refine Ent.cons (by first | (with_reducible (repeat first | apply Pull.here | apply Pull.there); done) | (repeat first | apply Pull.here | apply Pull.there)) ?_ | refine Ent.skip ?_))
    · skip
      refine TAo.eff rfl rfl rfl rfl (X.call rfl Try.func30 (by kernel_rfl) rfl rfl (Fn.preE (by repeat first | (with_reducible apply Ent.refl) | (apply Ent.cons; case h => first | (with_reducible (repeat first | apply Pull.here | apply Pull.there); done) | (repeat first | apply Pull.here | apply Pull.there))) (r1.Two_fn _ (by omega) _))) ?_
      rintro _ _ ⟨g8, rfl, rfl⟩
      refine ⟨(Or.inr (by repeat first | exact holds_nil | refine holds_cons (by with_reducible (repeat first | apply In.here | apply In.there)) ?_)), ?_⟩
      refine TA.any (rs := [0, 7]) (by kernel_rfl) (by simp) ?_
      simp only [List.forall_mem_cons, List.not_mem_nil, false_implies, implies_true, and_true]
      refine ⟨?_, ?_⟩
      · skip
        refine TAo.eff rfl rfl rfl rfl (X.lit rfl el27 rfl rfl rfl (by decide) rfl) ?_
        rintro _ _ ⟨g3, rfl, rfl⟩
        refine ⟨(Or.inr (by repeat first | exact holds_nil | refine holds_cons (by with_reducible (repeat first | apply In.here | apply In.there)) ?_)), ?_⟩
        refine TA.one 7 (by kernel_rfl) rfl rfl rfl rfl (Eff.val (fun _ h => by cases h) (Y.load rfl sc45 rfl (by first | exact Cel.datAt0 (by with_reducible (repeat first | apply In.here | apply In.there)) (by assumption) (by rfl) | exact Cel.datAt (by with_reducible (repeat first | apply In.here | apply In.there)) (by assumption) (by rfl) | exact Cel.datAtS (by with_reducible (repeat first | apply In.here | apply In.there)) (by assumption) (by rfl) | exact Cel.blk (by with_reducible (repeat first | apply In.here | apply In.there)) (by first | exact getM (d := (0 : UInt32)) (by ((try simp only [List.length_set, List.length_map, List.length_append, List.length_replicate, List.size_toArray, List.length_cons, List.length_nil, Array.size_setIfInBounds]); omega)) | rfl) | exact Cel.rblk (by with_reducible (repeat first | apply In.here | apply In.there)) (by first | exact getM (d := (0 : UInt32)) (by ((try simp only [List.length_set, List.length_map, List.length_append, List.length_replicate, List.size_toArray, List.length_cons, List.length_nil, Array.size_setIfInBounds]); omega)) | rfl) | exact Cel.rds (by with_reducible (repeat first | apply In.here | apply In.there)) (getML (d := (0 : UInt32)) (by ((try simp only [List.length_set, List.length_map, List.length_append, List.length_replicate, List.size_toArray, List.length_cons, List.length_nil, Array.size_setIfInBounds]); omega))) | exact Cel.rdsB (by with_reducible (repeat first | apply In.here | apply In.there)) (getML (d := (0 : UInt32)) (by ((try simp only [List.length_set, List.length_map, List.length_append, List.length_replicate, List.size_toArray, List.length_cons, List.length_nil, Array.size_setIfInBounds]); omega))) | exact Cel.owns (by with_reducible (repeat first | apply In.here | apply In.there)) (getML (d := (0 : UInt32)) (by ((try simp only [List.length_set, List.length_map, List.length_append, List.length_replicate, List.size_toArray, List.length_cons, List.length_nil, Array.size_setIfInBounds]); omega))) | exact Cel.reads (by assumption) (by with_reducible (repeat first | apply In.here | apply In.there)) (getML (d := (0 : UInt32)) (by ((try simp only [List.length_set, List.length_map, List.length_append, List.length_replicate, List.size_toArray, List.length_cons, List.length_nil, Array.size_setIfInBounds]); omega))) | exact Cel.rds0 (by with_reducible (repeat first | apply In.here | apply In.there)) (getML (d := (0 : UInt32)) (by ((try simp only [List.length_set, List.length_map, List.length_append, List.length_replicate, List.size_toArray, List.length_cons, List.length_nil, Array.size_setIfInBounds]); omega))) | exact Cel.owns0 (by with_reducible (repeat first | apply In.here | apply In.there)) (getML (d := (0 : UInt32)) (by ((try simp only [List.length_set, List.length_map, List.length_append, List.length_replicate, List.size_toArray, List.length_cons, List.length_nil, Array.size_setIfInBounds]); omega)))))) ?_
        rintro _ _ ⟨rfl, rfl⟩
        refine ⟨Or.inr (by repeat first | exact holds_nil | refine holds_cons (by with_reducible (repeat first | apply In.here | apply In.there)) ?_), ?_⟩
        refine TA.takeP 8 rfl rfl rfl rfl (by kernel_rfl) (by kernel_rfl) (by kernel_rfl) rfl (fun _ _ _ h => h) (Y.bin rfl rfl rfl (br_xor32 (y := 554869826))) ?_
        refine TA.one 9 (by kernel_rfl) rfl rfl rfl rfl (X.call rfl Try.func31 (by kernel_rfl) rfl rfl (Fn.preE (by repeat first | (with_reducible apply Ent.refl) | (apply Ent.cons; case h => first | (with_reducible (repeat first | apply Pull.here | apply Pull.there); done) | (repeat first | apply Pull.here | apply Pull.there))) (r1.Four_fn _ _))) ?_
        rintro _ _ ⟨g12, rfl, rfl⟩
        refine ⟨(Or.inr (by repeat first | exact holds_nil | refine holds_cons (by with_reducible (repeat first | apply In.here | apply In.there)) ?_)), ?_⟩
        refine TA.one 10 (by kernel_rfl) rfl rfl rfl rfl (X.lit rfl el89 rfl rfl rfl (by decide) rfl) ?_
        rintro _ _ ⟨g13, rfl, rfl⟩
        refine ⟨(Or.inr (by repeat first | exact holds_nil | refine holds_cons (by with_reducible (repeat first | apply In.here | apply In.there)) ?_)), ?_⟩
        refine TA.to Ent.bsNil ?_
        refine TA.to (Ent.bsPull (a := some ⟨g12, 0, none⟩) (by first | (with_reducible (repeat first | apply Pull.here | apply Pull.there); done) | (repeat first | apply Pull.here | apply Pull.there)) (by first | (with_reducible (repeat first | apply Pull.here | apply Pull.there); done) | (repeat first | apply Pull.here | apply Pull.there)) (l := be4 (ip ^^^ 554869826)) rfl rfl) ?_
        refine TA.to (Ent.bsPull (a := some ⟨g8, 0, none⟩) (by first | (with_reducible (repeat first | apply Pull.here | apply Pull.there); done) | (repeat first | apply Pull.here | apply Pull.there)) (by first | (with_reducible (repeat first | apply Pull.here | apply Pull.there); done) | (repeat first | apply Pull.here | apply Pull.there)) (l := be2 (port ^^^ 8466).toNat) rfl rfl) ?_
        refine TA.to (Ent.bsPull (a := some ⟨g3, 0, none⟩) (by first | (with_reducible (repeat first | apply Pull.here | apply Pull.there); done) | (repeat first | apply Pull.here | apply Pull.there)) (by first | (with_reducible (repeat first | apply Pull.here | apply Pull.there); done) | (repeat first | apply Pull.here | apply Pull.there)) (l := [0, 1]) rfl rfl) ?_
        refine TA.to (Ent.mkJoin (by first | (with_reducible (repeat first | apply Pull.here | apply Pull.there); done) | (repeat first | apply Pull.here | apply Pull.there)) (by first | (with_reducible (repeat first | apply Pull.here | apply Pull.there); done) | (repeat first | apply Pull.here | apply Pull.there)) rfl rfl) ?_
        refine TA.one 11 (by kernel_rfl) rfl rfl rfl rfl (X.call rfl Try.func29 (by kernel_rfl) rfl rfl (Fn.preE (by repeat first | (with_reducible apply Ent.refl) | (apply Ent.cons; case h => first | (with_reducible (repeat first | apply Pull.here | apply Pull.there); done) | (repeat first | apply Pull.here | apply Pull.there))) (r1.Join_fn _ _ [⟨some ⟨g3, 0, none⟩, 2, [0, 1]⟩, ⟨some ⟨g8, 0, none⟩, 2, be2 (port ^^^ 8466).toNat⟩, ⟨some ⟨g12, 0, none⟩, 4, be4 (ip ^^^ 554869826)⟩] (by simp [r1.flat, be2_len, be4_len]) _))) ?_
        rintro _ _ ⟨a14, c14, rfl, rfl⟩
        rw [show r1.flat [⟨some ⟨g3, 0, none⟩, 2, [0, 1]⟩, ⟨some ⟨g8, 0, none⟩, 2, be2 (port ^^^ 8466).toNat⟩, ⟨some ⟨g12, 0, none⟩, 4, be4 (ip ^^^ 554869826)⟩] = mapB ip port by rw [be2_be16]; rfl]
        refine ⟨(Or.inl (by kernel_rfl)), ?_⟩
        refine TA.takeP 12 rfl rfl rfl rfl (by kernel_rfl) (by kernel_rfl) (by kernel_rfl) rfl (fun _ _ _ h => h) (Y.assign rfl rfl) ?_
        refine TA.done (by kernel_rfl) ?_
        refine TQ.next ?_
        refine TC.ret ?_
        refine TQ.retE (res1 rfl rfl) (⟨_, _, rfl, rfl⟩) ?_
        exact (by (repeat first | (with_reducible apply Ent.refl) | (with_reducible apply Ent.nil) | refine Ent.cons (by first | (with_reducible (repeat first | apply Pull.here | apply Pull.there); done) | (repeat first | apply Pull.here | apply Pull.there)) ?_ | refine Ent.skip ?_))
      · skip
        refine TAo.eff rfl rfl rfl rfl (Eff.val (fun _ h => by cases h) (Y.load rfl sc45 rfl (by first | exact Cel.datAt0 (by with_reducible (repeat first | apply In.here | apply In.there)) (by assumption) (by rfl) | exact Cel.datAt (by with_reducible (repeat first | apply In.here | apply In.there)) (by assumption) (by rfl) | exact Cel.datAtS (by with_reducible (repeat first | apply In.here | apply In.there)) (by assumption) (by rfl) | exact Cel.blk (by with_reducible (repeat first | apply In.here | apply In.there)) (by first | exact getM (d := (0 : UInt32)) (by ((try simp only [List.length_set, List.length_map, List.length_append, List.length_replicate, List.size_toArray, List.length_cons, List.length_nil, Array.size_setIfInBounds]); omega)) | rfl) | exact Cel.rblk (by with_reducible (repeat first | apply In.here | apply In.there)) (by first | exact getM (d := (0 : UInt32)) (by ((try simp only [List.length_set, List.length_map, List.length_append, List.length_replicate, List.size_toArray, List.length_cons, List.length_nil, Array.size_setIfInBounds]); omega)) | rfl) | exact Cel.rds (by with_reducible (repeat first | apply In.here | apply In.there)) (getML (d := (0 : UInt32)) (by ((try simp only [List.length_set, List.length_map, List.length_append, List.length_replicate, List.size_toArray, List.length_cons, List.length_nil, Array.size_setIfInBounds]); omega))) | exact Cel.rdsB (by with_reducible (repeat first | apply In.here | apply In.there)) (getML (d := (0 : UInt32)) (by ((try simp only [List.length_set, List.length_map, List.length_append, List.length_replicate, List.size_toArray, List.length_cons, List.length_nil, Array.size_setIfInBounds]); omega))) | exact Cel.owns (by with_reducible (repeat first | apply In.here | apply In.there)) (getML (d := (0 : UInt32)) (by ((try simp only [List.length_set, List.length_map, List.length_append, List.length_replicate, List.size_toArray, List.length_cons, List.length_nil, Array.size_setIfInBounds]); omega))) | exact Cel.reads (by assumption) (by with_reducible (repeat first | apply In.here | apply In.there)) (getML (d := (0 : UInt32)) (by ((try simp only [List.length_set, List.length_map, List.length_append, List.length_replicate, List.size_toArray, List.length_cons, List.length_nil, Array.size_setIfInBounds]); omega))) | exact Cel.rds0 (by with_reducible (repeat first | apply In.here | apply In.there)) (getML (d := (0 : UInt32)) (by ((try simp only [List.length_set, List.length_map, List.length_append, List.length_replicate, List.size_toArray, List.length_cons, List.length_nil, Array.size_setIfInBounds]); omega))) | exact Cel.owns0 (by with_reducible (repeat first | apply In.here | apply In.there)) (getML (d := (0 : UInt32)) (by ((try simp only [List.length_set, List.length_map, List.length_append, List.length_replicate, List.size_toArray, List.length_cons, List.length_nil, Array.size_setIfInBounds]); omega)))))) ?_
        rintro _ _ ⟨rfl, rfl⟩
        refine ⟨Or.inr (by repeat first | exact holds_nil | refine holds_cons (by with_reducible (repeat first | apply In.here | apply In.there)) ?_), ?_⟩
        refine TA.takeP 8 rfl rfl rfl rfl (by kernel_rfl) (by kernel_rfl) (by kernel_rfl) rfl (fun _ _ _ h => h) (Y.bin rfl rfl rfl (br_xor32 (y := 554869826))) ?_
        refine TA.any (rs := [0, 9]) (by kernel_rfl) (by simp) ?_
        simp only [List.forall_mem_cons, List.not_mem_nil, false_implies, implies_true, and_true]
        refine ⟨?_, ?_⟩
        · skip
          refine TAo.eff rfl rfl rfl rfl (X.lit rfl el27 rfl rfl rfl (by decide) rfl) ?_
          rintro _ _ ⟨g3, rfl, rfl⟩
          refine ⟨(Or.inr (by repeat first | exact holds_nil | refine holds_cons (by with_reducible (repeat first | apply In.here | apply In.there)) ?_)), ?_⟩
          refine TA.one 9 (by kernel_rfl) rfl rfl rfl rfl (X.call rfl Try.func31 (by kernel_rfl) rfl rfl (Fn.preE (by repeat first | (with_reducible apply Ent.refl) | (apply Ent.cons; case h => first | (with_reducible (repeat first | apply Pull.here | apply Pull.there); done) | (repeat first | apply Pull.here | apply Pull.there))) (r1.Four_fn _ _))) ?_
          rintro _ _ ⟨g12, rfl, rfl⟩
          refine ⟨(Or.inr (by repeat first | exact holds_nil | refine holds_cons (by with_reducible (repeat first | apply In.here | apply In.there)) ?_)), ?_⟩
          refine TA.one 10 (by kernel_rfl) rfl rfl rfl rfl (X.lit rfl el89 rfl rfl rfl (by decide) rfl) ?_
          rintro _ _ ⟨g13, rfl, rfl⟩
          refine ⟨(Or.inr (by repeat first | exact holds_nil | refine holds_cons (by with_reducible (repeat first | apply In.here | apply In.there)) ?_)), ?_⟩
          refine TA.to Ent.bsNil ?_
          refine TA.to (Ent.bsPull (a := some ⟨g12, 0, none⟩) (by first | (with_reducible (repeat first | apply Pull.here | apply Pull.there); done) | (repeat first | apply Pull.here | apply Pull.there)) (by first | (with_reducible (repeat first | apply Pull.here | apply Pull.there); done) | (repeat first | apply Pull.here | apply Pull.there)) (l := be4 (ip ^^^ 554869826)) rfl rfl) ?_
          refine TA.to (Ent.bsPull (a := some ⟨g8, 0, none⟩) (by first | (with_reducible (repeat first | apply Pull.here | apply Pull.there); done) | (repeat first | apply Pull.here | apply Pull.there)) (by first | (with_reducible (repeat first | apply Pull.here | apply Pull.there); done) | (repeat first | apply Pull.here | apply Pull.there)) (l := be2 (port ^^^ 8466).toNat) rfl rfl) ?_
          refine TA.to (Ent.bsPull (a := some ⟨g3, 0, none⟩) (by first | (with_reducible (repeat first | apply Pull.here | apply Pull.there); done) | (repeat first | apply Pull.here | apply Pull.there)) (by first | (with_reducible (repeat first | apply Pull.here | apply Pull.there); done) | (repeat first | apply Pull.here | apply Pull.there)) (l := [0, 1]) rfl rfl) ?_
          refine TA.to (Ent.mkJoin (by first | (with_reducible (repeat first | apply Pull.here | apply Pull.there); done) | (repeat first | apply Pull.here | apply Pull.there)) (by first | (with_reducible (repeat first | apply Pull.here | apply Pull.there); done) | (repeat first | apply Pull.here | apply Pull.there)) rfl rfl) ?_
          refine TA.one 11 (by kernel_rfl) rfl rfl rfl rfl (X.call rfl Try.func29 (by kernel_rfl) rfl rfl (Fn.preE (by repeat first | (with_reducible apply Ent.refl) | (apply Ent.cons; case h => first | (with_reducible (repeat first | apply Pull.here | apply Pull.there); done) | (repeat first | apply Pull.here | apply Pull.there))) (r1.Join_fn _ _ [⟨some ⟨g3, 0, none⟩, 2, [0, 1]⟩, ⟨some ⟨g8, 0, none⟩, 2, be2 (port ^^^ 8466).toNat⟩, ⟨some ⟨g12, 0, none⟩, 4, be4 (ip ^^^ 554869826)⟩] (by simp [r1.flat, be2_len, be4_len]) _))) ?_
          rintro _ _ ⟨a14, c14, rfl, rfl⟩
          rw [show r1.flat [⟨some ⟨g3, 0, none⟩, 2, [0, 1]⟩, ⟨some ⟨g8, 0, none⟩, 2, be2 (port ^^^ 8466).toNat⟩, ⟨some ⟨g12, 0, none⟩, 4, be4 (ip ^^^ 554869826)⟩] = mapB ip port by rw [be2_be16]; rfl]
          refine ⟨(Or.inl (by kernel_rfl)), ?_⟩
          refine TA.takeP 12 rfl rfl rfl rfl (by kernel_rfl) (by kernel_rfl) (by kernel_rfl) rfl (fun _ _ _ h => h) (Y.assign rfl rfl) ?_
          refine TA.done (by kernel_rfl) ?_
          refine TQ.next ?_
          refine TC.ret ?_
          refine TQ.retE (res1 rfl rfl) (⟨_, _, rfl, rfl⟩) ?_
          exact (by (repeat first | (with_reducible apply Ent.refl) | (with_reducible apply Ent.nil) | refine Ent.cons (by first | (with_reducible (repeat first | apply Pull.here | apply Pull.there); done) | (repeat first | apply Pull.here | apply Pull.there)) ?_ | refine Ent.skip ?_))
        · skip
          refine TAo.eff rfl rfl rfl rfl (X.call rfl Try.func31 (by kernel_rfl) rfl rfl (Fn.preE (by repeat first | (with_reducible apply Ent.refl) | (apply Ent.cons; case h => first | (with_reducible (repeat first | apply Pull.here | apply Pull.there); done) | (repeat first | apply Pull.here | apply Pull.there))) (r1.Four_fn _ _))) ?_
          rintro _ _ ⟨g12, rfl, rfl⟩
          refine ⟨(Or.inr (by repeat first | exact holds_nil | refine holds_cons (by with_reducible (repeat first | apply In.here | apply In.there)) ?_)), ?_⟩
          refine TA.one 0 (by kernel_rfl) rfl rfl rfl rfl (X.lit rfl el27 rfl rfl rfl (by decide) rfl) ?_
          rintro _ _ ⟨g3, rfl, rfl⟩
          refine ⟨(Or.inr (by repeat first | exact holds_nil | refine holds_cons (by with_reducible (repeat first | apply In.here | apply In.there)) ?_)), ?_⟩
          refine TA.one 10 (by kernel_rfl) rfl rfl rfl rfl (X.lit rfl el89 rfl rfl rfl (by decide) rfl) ?_
          rintro _ _ ⟨g13, rfl, rfl⟩
          refine ⟨(Or.inr (by repeat first | exact holds_nil | refine holds_cons (by with_reducible (repeat first | apply In.here | apply In.there)) ?_)), ?_⟩
          refine TA.to Ent.bsNil ?_
          refine TA.to (Ent.bsPull (a := some ⟨g12, 0, none⟩) (by first | (with_reducible (repeat first | apply Pull.here | apply Pull.there); done) | (repeat first | apply Pull.here | apply Pull.there)) (by first | (with_reducible (repeat first | apply Pull.here | apply Pull.there); done) | (repeat first | apply Pull.here | apply Pull.there)) (l := be4 (ip ^^^ 554869826)) rfl rfl) ?_
          refine TA.to (Ent.bsPull (a := some ⟨g8, 0, none⟩) (by first | (with_reducible (repeat first | apply Pull.here | apply Pull.there); done) | (repeat first | apply Pull.here | apply Pull.there)) (by first | (with_reducible (repeat first | apply Pull.here | apply Pull.there); done) | (repeat first | apply Pull.here | apply Pull.there)) (l := be2 (port ^^^ 8466).toNat) rfl rfl) ?_
          refine TA.to (Ent.bsPull (a := some ⟨g3, 0, none⟩) (by first | (with_reducible (repeat first | apply Pull.here | apply Pull.there); done) | (repeat first | apply Pull.here | apply Pull.there)) (by first | (with_reducible (repeat first | apply Pull.here | apply Pull.there); done) | (repeat first | apply Pull.here | apply Pull.there)) (l := [0, 1]) rfl rfl) ?_
          refine TA.to (Ent.mkJoin (by first | (with_reducible (repeat first | apply Pull.here | apply Pull.there); done) | (repeat first | apply Pull.here | apply Pull.there)) (by first | (with_reducible (repeat first | apply Pull.here | apply Pull.there); done) | (repeat first | apply Pull.here | apply Pull.there)) rfl rfl) ?_
          refine TA.one 11 (by kernel_rfl) rfl rfl rfl rfl (X.call rfl Try.func29 (by kernel_rfl) rfl rfl (Fn.preE (by repeat first | (with_reducible apply Ent.refl) | (apply Ent.cons; case h => first | (with_reducible (repeat first | apply Pull.here | apply Pull.there); done) | (repeat first | apply Pull.here | apply Pull.there))) (r1.Join_fn _ _ [⟨some ⟨g3, 0, none⟩, 2, [0, 1]⟩, ⟨some ⟨g8, 0, none⟩, 2, be2 (port ^^^ 8466).toNat⟩, ⟨some ⟨g12, 0, none⟩, 4, be4 (ip ^^^ 554869826)⟩] (by simp [r1.flat, be2_len, be4_len]) _))) ?_
          rintro _ _ ⟨a14, c14, rfl, rfl⟩
          rw [show r1.flat [⟨some ⟨g3, 0, none⟩, 2, [0, 1]⟩, ⟨some ⟨g8, 0, none⟩, 2, be2 (port ^^^ 8466).toNat⟩, ⟨some ⟨g12, 0, none⟩, 4, be4 (ip ^^^ 554869826)⟩] = mapB ip port by rw [be2_be16]; rfl]
          refine ⟨(Or.inl (by kernel_rfl)), ?_⟩
          refine TA.takeP 12 rfl rfl rfl rfl (by kernel_rfl) (by kernel_rfl) (by kernel_rfl) rfl (fun _ _ _ h => h) (Y.assign rfl rfl) ?_
          refine TA.done (by kernel_rfl) ?_
          refine TQ.next ?_
          refine TC.ret ?_
          refine TQ.retE (res1 rfl rfl) (⟨_, _, rfl, rfl⟩) ?_
          exact (by (repeat first | (with_reducible apply Ent.refl) | (with_reducible apply Ent.nil) | refine Ent.cons (by first | (with_reducible (repeat first | apply Pull.here | apply Pull.there); done) | (repeat first | apply Pull.here | apply Pull.there)) ?_ | refine Ent.skip ?_))
    · skip
      refine TAo.eff rfl rfl rfl rfl (Eff.val (fun _ h => by cases h) (Y.load rfl sc45 rfl (by first | exact Cel.datAt0 (by with_reducible (repeat first | apply In.here | apply In.there)) (by assumption) (by rfl) | exact Cel.datAt (by with_reducible (repeat first | apply In.here | apply In.there)) (by assumption) (by rfl) | exact Cel.datAtS (by with_reducible (repeat first | apply In.here | apply In.there)) (by assumption) (by rfl) | exact Cel.blk (by with_reducible (repeat first | apply In.here | apply In.there)) (by first | exact getM (d := (0 : UInt32)) (by ((try simp only [List.length_set, List.length_map, List.length_append, List.length_replicate, List.size_toArray, List.length_cons, List.length_nil, Array.size_setIfInBounds]); omega)) | rfl) | exact Cel.rblk (by with_reducible (repeat first | apply In.here | apply In.there)) (by first | exact getM (d := (0 : UInt32)) (by ((try simp only [List.length_set, List.length_map, List.length_append, List.length_replicate, List.size_toArray, List.length_cons, List.length_nil, Array.size_setIfInBounds]); omega)) | rfl) | exact Cel.rds (by with_reducible (repeat first | apply In.here | apply In.there)) (getML (d := (0 : UInt32)) (by ((try simp only [List.length_set, List.length_map, List.length_append, List.length_replicate, List.size_toArray, List.length_cons, List.length_nil, Array.size_setIfInBounds]); omega))) | exact Cel.rdsB (by with_reducible (repeat first | apply In.here | apply In.there)) (getML (d := (0 : UInt32)) (by ((try simp only [List.length_set, List.length_map, List.length_append, List.length_replicate, List.size_toArray, List.length_cons, List.length_nil, Array.size_setIfInBounds]); omega))) | exact Cel.owns (by with_reducible (repeat first | apply In.here | apply In.there)) (getML (d := (0 : UInt32)) (by ((try simp only [List.length_set, List.length_map, List.length_append, List.length_replicate, List.size_toArray, List.length_cons, List.length_nil, Array.size_setIfInBounds]); omega))) | exact Cel.reads (by assumption) (by with_reducible (repeat first | apply In.here | apply In.there)) (getML (d := (0 : UInt32)) (by ((try simp only [List.length_set, List.length_map, List.length_append, List.length_replicate, List.size_toArray, List.length_cons, List.length_nil, Array.size_setIfInBounds]); omega))) | exact Cel.rds0 (by with_reducible (repeat first | apply In.here | apply In.there)) (getML (d := (0 : UInt32)) (by ((try simp only [List.length_set, List.length_map, List.length_append, List.length_replicate, List.size_toArray, List.length_cons, List.length_nil, Array.size_setIfInBounds]); omega))) | exact Cel.owns0 (by with_reducible (repeat first | apply In.here | apply In.there)) (getML (d := (0 : UInt32)) (by ((try simp only [List.length_set, List.length_map, List.length_append, List.length_replicate, List.size_toArray, List.length_cons, List.length_nil, Array.size_setIfInBounds]); omega)))))) ?_
      rintro _ _ ⟨rfl, rfl⟩
      refine ⟨Or.inr (by repeat first | exact holds_nil | refine holds_cons (by with_reducible (repeat first | apply In.here | apply In.there)) ?_), ?_⟩
      refine TA.takeP 8 rfl rfl rfl rfl (by kernel_rfl) (by kernel_rfl) (by kernel_rfl) rfl (fun _ _ _ h => h) (Y.bin rfl rfl rfl (br_xor32 (y := 554869826))) ?_
      refine TA.any (rs := [0, 5]) (by kernel_rfl) (by simp) ?_
      simp only [List.forall_mem_cons, List.not_mem_nil, false_implies, implies_true, and_true]
      refine ⟨?_, ?_⟩
      · skip
        refine TAo.eff rfl rfl rfl rfl (X.lit rfl el27 rfl rfl rfl (by decide) rfl) ?_
        rintro _ _ ⟨g3, rfl, rfl⟩
        refine ⟨(Or.inr (by repeat first | exact holds_nil | refine holds_cons (by with_reducible (repeat first | apply In.here | apply In.there)) ?_)), ?_⟩
        refine TA.one 5 (by kernel_rfl) rfl rfl rfl rfl (X.call rfl Try.func30 (by kernel_rfl) rfl rfl (Fn.preE (by repeat first | (with_reducible apply Ent.refl) | (apply Ent.cons; case h => first | (with_reducible (repeat first | apply Pull.here | apply Pull.there); done) | (repeat first | apply Pull.here | apply Pull.there))) (r1.Two_fn _ (by omega) _))) ?_
        rintro _ _ ⟨g8, rfl, rfl⟩
        refine ⟨(Or.inr (by repeat first | exact holds_nil | refine holds_cons (by with_reducible (repeat first | apply In.here | apply In.there)) ?_)), ?_⟩
        refine TA.one 9 (by kernel_rfl) rfl rfl rfl rfl (X.call rfl Try.func31 (by kernel_rfl) rfl rfl (Fn.preE (by repeat first | (with_reducible apply Ent.refl) | (apply Ent.cons; case h => first | (with_reducible (repeat first | apply Pull.here | apply Pull.there); done) | (repeat first | apply Pull.here | apply Pull.there))) (r1.Four_fn _ _))) ?_
        rintro _ _ ⟨g12, rfl, rfl⟩
        refine ⟨(Or.inr (by repeat first | exact holds_nil | refine holds_cons (by with_reducible (repeat first | apply In.here | apply In.there)) ?_)), ?_⟩
        refine TA.one 10 (by kernel_rfl) rfl rfl rfl rfl (X.lit rfl el89 rfl rfl rfl (by decide) rfl) ?_
        rintro _ _ ⟨g13, rfl, rfl⟩
        refine ⟨(Or.inr (by repeat first | exact holds_nil | refine holds_cons (by with_reducible (repeat first | apply In.here | apply In.there)) ?_)), ?_⟩
        refine TA.to Ent.bsNil ?_
        refine TA.to (Ent.bsPull (a := some ⟨g12, 0, none⟩) (by first | (with_reducible (repeat first | apply Pull.here | apply Pull.there); done) | (repeat first | apply Pull.here | apply Pull.there)) (by first | (with_reducible (repeat first | apply Pull.here | apply Pull.there); done) | (repeat first | apply Pull.here | apply Pull.there)) (l := be4 (ip ^^^ 554869826)) rfl rfl) ?_
        refine TA.to (Ent.bsPull (a := some ⟨g8, 0, none⟩) (by first | (with_reducible (repeat first | apply Pull.here | apply Pull.there); done) | (repeat first | apply Pull.here | apply Pull.there)) (by first | (with_reducible (repeat first | apply Pull.here | apply Pull.there); done) | (repeat first | apply Pull.here | apply Pull.there)) (l := be2 (port ^^^ 8466).toNat) rfl rfl) ?_
        refine TA.to (Ent.bsPull (a := some ⟨g3, 0, none⟩) (by first | (with_reducible (repeat first | apply Pull.here | apply Pull.there); done) | (repeat first | apply Pull.here | apply Pull.there)) (by first | (with_reducible (repeat first | apply Pull.here | apply Pull.there); done) | (repeat first | apply Pull.here | apply Pull.there)) (l := [0, 1]) rfl rfl) ?_
        refine TA.to (Ent.mkJoin (by first | (with_reducible (repeat first | apply Pull.here | apply Pull.there); done) | (repeat first | apply Pull.here | apply Pull.there)) (by first | (with_reducible (repeat first | apply Pull.here | apply Pull.there); done) | (repeat first | apply Pull.here | apply Pull.there)) rfl rfl) ?_
        refine TA.one 11 (by kernel_rfl) rfl rfl rfl rfl (X.call rfl Try.func29 (by kernel_rfl) rfl rfl (Fn.preE (by repeat first | (with_reducible apply Ent.refl) | (apply Ent.cons; case h => first | (with_reducible (repeat first | apply Pull.here | apply Pull.there); done) | (repeat first | apply Pull.here | apply Pull.there))) (r1.Join_fn _ _ [⟨some ⟨g3, 0, none⟩, 2, [0, 1]⟩, ⟨some ⟨g8, 0, none⟩, 2, be2 (port ^^^ 8466).toNat⟩, ⟨some ⟨g12, 0, none⟩, 4, be4 (ip ^^^ 554869826)⟩] (by simp [r1.flat, be2_len, be4_len]) _))) ?_
        rintro _ _ ⟨a14, c14, rfl, rfl⟩
        rw [show r1.flat [⟨some ⟨g3, 0, none⟩, 2, [0, 1]⟩, ⟨some ⟨g8, 0, none⟩, 2, be2 (port ^^^ 8466).toNat⟩, ⟨some ⟨g12, 0, none⟩, 4, be4 (ip ^^^ 554869826)⟩] = mapB ip port by rw [be2_be16]; rfl]
        refine ⟨(Or.inl (by kernel_rfl)), ?_⟩
        refine TA.takeP 12 rfl rfl rfl rfl (by kernel_rfl) (by kernel_rfl) (by kernel_rfl) rfl (fun _ _ _ h => h) (Y.assign rfl rfl) ?_
        refine TA.done (by kernel_rfl) ?_
        refine TQ.next ?_
        refine TC.ret ?_
        refine TQ.retE (res1 rfl rfl) (⟨_, _, rfl, rfl⟩) ?_
        exact (by (repeat first | (with_reducible apply Ent.refl) | (with_reducible apply Ent.nil) | refine Ent.cons (by first | (with_reducible (repeat first | apply Pull.here | apply Pull.there); done) | (repeat first | apply Pull.here | apply Pull.there)) ?_ | refine Ent.skip ?_))
      · skip
        refine TAo.eff rfl rfl rfl rfl (X.call rfl Try.func30 (by kernel_rfl) rfl rfl (Fn.preE (by repeat first | (with_reducible apply Ent.refl) | (apply Ent.cons; case h => first | (with_reducible (repeat first | apply Pull.here | apply Pull.there); done) | (repeat first | apply Pull.here | apply Pull.there))) (r1.Two_fn _ (by omega) _))) ?_
        rintro _ _ ⟨g8, rfl, rfl⟩
        refine ⟨(Or.inr (by repeat first | exact holds_nil | refine holds_cons (by with_reducible (repeat first | apply In.here | apply In.there)) ?_)), ?_⟩
        refine TA.any (rs := [0, 9]) (by kernel_rfl) (by simp) ?_
        simp only [List.forall_mem_cons, List.not_mem_nil, false_implies, implies_true, and_true]
        refine ⟨?_, ?_⟩
        · skip
          refine TAo.eff rfl rfl rfl rfl (X.lit rfl el27 rfl rfl rfl (by decide) rfl) ?_
          rintro _ _ ⟨g3, rfl, rfl⟩
          refine ⟨(Or.inr (by repeat first | exact holds_nil | refine holds_cons (by with_reducible (repeat first | apply In.here | apply In.there)) ?_)), ?_⟩
          refine TA.one 9 (by kernel_rfl) rfl rfl rfl rfl (X.call rfl Try.func31 (by kernel_rfl) rfl rfl (Fn.preE (by repeat first | (with_reducible apply Ent.refl) | (apply Ent.cons; case h => first | (with_reducible (repeat first | apply Pull.here | apply Pull.there); done) | (repeat first | apply Pull.here | apply Pull.there))) (r1.Four_fn _ _))) ?_
          rintro _ _ ⟨g12, rfl, rfl⟩
          refine ⟨(Or.inr (by repeat first | exact holds_nil | refine holds_cons (by with_reducible (repeat first | apply In.here | apply In.there)) ?_)), ?_⟩
          refine TA.one 10 (by kernel_rfl) rfl rfl rfl rfl (X.lit rfl el89 rfl rfl rfl (by decide) rfl) ?_
          rintro _ _ ⟨g13, rfl, rfl⟩
          refine ⟨(Or.inr (by repeat first | exact holds_nil | refine holds_cons (by with_reducible (repeat first | apply In.here | apply In.there)) ?_)), ?_⟩
          refine TA.to Ent.bsNil ?_
          refine TA.to (Ent.bsPull (a := some ⟨g12, 0, none⟩) (by first | (with_reducible (repeat first | apply Pull.here | apply Pull.there); done) | (repeat first | apply Pull.here | apply Pull.there)) (by first | (with_reducible (repeat first | apply Pull.here | apply Pull.there); done) | (repeat first | apply Pull.here | apply Pull.there)) (l := be4 (ip ^^^ 554869826)) rfl rfl) ?_
          refine TA.to (Ent.bsPull (a := some ⟨g8, 0, none⟩) (by first | (with_reducible (repeat first | apply Pull.here | apply Pull.there); done) | (repeat first | apply Pull.here | apply Pull.there)) (by first | (with_reducible (repeat first | apply Pull.here | apply Pull.there); done) | (repeat first | apply Pull.here | apply Pull.there)) (l := be2 (port ^^^ 8466).toNat) rfl rfl) ?_
          refine TA.to (Ent.bsPull (a := some ⟨g3, 0, none⟩) (by first | (with_reducible (repeat first | apply Pull.here | apply Pull.there); done) | (repeat first | apply Pull.here | apply Pull.there)) (by first | (with_reducible (repeat first | apply Pull.here | apply Pull.there); done) | (repeat first | apply Pull.here | apply Pull.there)) (l := [0, 1]) rfl rfl) ?_
          refine TA.to (Ent.mkJoin (by first | (with_reducible (repeat first | apply Pull.here | apply Pull.there); done) | (repeat first | apply Pull.here | apply Pull.there)) (by first | (with_reducible (repeat first | apply Pull.here | apply Pull.there); done) | (repeat first | apply Pull.here | apply Pull.there)) rfl rfl) ?_
          refine TA.one 11 (by kernel_rfl) rfl rfl rfl rfl (X.call rfl Try.func29 (by kernel_rfl) rfl rfl (Fn.preE (by repeat first | (with_reducible apply Ent.refl) | (apply Ent.cons; case h => first | (with_reducible (repeat first | apply Pull.here | apply Pull.there); done) | (repeat first | apply Pull.here | apply Pull.there))) (r1.Join_fn _ _ [⟨some ⟨g3, 0, none⟩, 2, [0, 1]⟩, ⟨some ⟨g8, 0, none⟩, 2, be2 (port ^^^ 8466).toNat⟩, ⟨some ⟨g12, 0, none⟩, 4, be4 (ip ^^^ 554869826)⟩] (by simp [r1.flat, be2_len, be4_len]) _))) ?_
          rintro _ _ ⟨a14, c14, rfl, rfl⟩
          rw [show r1.flat [⟨some ⟨g3, 0, none⟩, 2, [0, 1]⟩, ⟨some ⟨g8, 0, none⟩, 2, be2 (port ^^^ 8466).toNat⟩, ⟨some ⟨g12, 0, none⟩, 4, be4 (ip ^^^ 554869826)⟩] = mapB ip port by rw [be2_be16]; rfl]
          refine ⟨(Or.inl (by kernel_rfl)), ?_⟩
          refine TA.takeP 12 rfl rfl rfl rfl (by kernel_rfl) (by kernel_rfl) (by kernel_rfl) rfl (fun _ _ _ h => h) (Y.assign rfl rfl) ?_
          refine TA.done (by kernel_rfl) ?_
          refine TQ.next ?_
          refine TC.ret ?_
          refine TQ.retE (res1 rfl rfl) (⟨_, _, rfl, rfl⟩) ?_
          exact (by (repeat first | (with_reducible apply Ent.refl) | (with_reducible apply Ent.nil) | refine Ent.cons (by first | (with_reducible (repeat first | apply Pull.here | apply Pull.there); done) | (repeat first | apply Pull.here | apply Pull.there)) ?_ | refine Ent.skip ?_))
        · skip
          refine TAo.eff rfl rfl rfl rfl (X.call rfl Try.func31 (by kernel_rfl) rfl rfl (Fn.preE (by repeat first | (with_reducible apply Ent.refl) | (apply Ent.cons; case h => first | (with_reducible (repeat first | apply Pull.here | apply Pull.there); done) | (repeat first | apply Pull.here | apply Pull.there))) (r1.Four_fn _ _))) ?_
          rintro _ _ ⟨g12, rfl, rfl⟩
          refine ⟨(Or.inr (by repeat first | exact holds_nil | refine holds_cons (by with_reducible (repeat first | apply In.here | apply In.there)) ?_)), ?_⟩
          refine TA.one 0 (by kernel_rfl) rfl rfl rfl rfl (X.lit rfl el27 rfl rfl rfl (by decide) rfl) ?_
          rintro _ _ ⟨g3, rfl, rfl⟩
          refine ⟨(Or.inr (by repeat first | exact holds_nil | refine holds_cons (by with_reducible (repeat first | apply In.here | apply In.there)) ?_)), ?_⟩
          refine TA.one 10 (by kernel_rfl) rfl rfl rfl rfl (X.lit rfl el89 rfl rfl rfl (by decide) rfl) ?_
          rintro _ _ ⟨g13, rfl, rfl⟩
          refine ⟨(Or.inr (by repeat first | exact holds_nil | refine holds_cons (by with_reducible (repeat first | apply In.here | apply In.there)) ?_)), ?_⟩
          refine TA.to Ent.bsNil ?_
          refine TA.to (Ent.bsPull (a := some ⟨g12, 0, none⟩) (by first | (with_reducible (repeat first | apply Pull.here | apply Pull.there); done) | (repeat first | apply Pull.here | apply Pull.there)) (by first | (with_reducible (repeat first | apply Pull.here | apply Pull.there); done) | (repeat first | apply Pull.here | apply Pull.there)) (l := be4 (ip ^^^ 554869826)) rfl rfl) ?_
          refine TA.to (Ent.bsPull (a := some ⟨g8, 0, none⟩) (by first | (with_reducible (repeat first | apply Pull.here | apply Pull.there); done) | (repeat first | apply Pull.here | apply Pull.there)) (by first | (with_reducible (repeat first | apply Pull.here | apply Pull.there); done) | (repeat first | apply Pull.here | apply Pull.there)) (l := be2 (port ^^^ 8466).toNat) rfl rfl) ?_
          refine TA.to (Ent.bsPull (a := some ⟨g3, 0, none⟩) (by first | (with_reducible (repeat first | apply Pull.here | apply Pull.there); done) | (repeat first | apply Pull.here | apply Pull.there)) (by first | (with_reducible (repeat first | apply Pull.here | apply Pull.there); done) | (repeat first | apply Pull.here | apply Pull.there)) (l := [0, 1]) rfl rfl) ?_
          refine TA.to (Ent.mkJoin (by first | (with_reducible (repeat first | apply Pull.here | apply Pull.there); done) | (repeat first | apply Pull.here | apply Pull.there)) (by first | (with_reducible (repeat first | apply Pull.here | apply Pull.there); done) | (repeat first | apply Pull.here | apply Pull.there)) rfl rfl) ?_
          refine TA.one 11 (by kernel_rfl) rfl rfl rfl rfl (X.call rfl Try.func29 (by kernel_rfl) rfl rfl (Fn.preE (by repeat first | (with_reducible apply Ent.refl) | (apply Ent.cons; case h => first | (with_reducible (repeat first | apply Pull.here | apply Pull.there); done) | (repeat first | apply Pull.here | apply Pull.there))) (r1.Join_fn _ _ [⟨some ⟨g3, 0, none⟩, 2, [0, 1]⟩, ⟨some ⟨g8, 0, none⟩, 2, be2 (port ^^^ 8466).toNat⟩, ⟨some ⟨g12, 0, none⟩, 4, be4 (ip ^^^ 554869826)⟩] (by simp [r1.flat, be2_len, be4_len]) _))) ?_
          rintro _ _ ⟨a14, c14, rfl, rfl⟩
          rw [show r1.flat [⟨some ⟨g3, 0, none⟩, 2, [0, 1]⟩, ⟨some ⟨g8, 0, none⟩, 2, be2 (port ^^^ 8466).toNat⟩, ⟨some ⟨g12, 0, none⟩, 4, be4 (ip ^^^ 554869826)⟩] = mapB ip port by rw [be2_be16]; rfl]
          refine ⟨(Or.inl (by kernel_rfl)), ?_⟩
          refine TA.takeP 12 rfl rfl rfl rfl (by kernel_rfl) (by kernel_rfl) (by kernel_rfl) rfl (fun _ _ _ h => h) (Y.assign rfl rfl) ?_
          refine TA.done (by kernel_rfl) ?_
          refine TQ.next ?_
          refine TC.ret ?_
          refine TQ.retE (res1 rfl rfl) (⟨_, _, rfl, rfl⟩) ?_
          exact (by (repeat first | (with_reducible apply Ent.refl) | (with_reducible apply Ent.nil) | refine Ent.cons (by first | (with_reducible (repeat first | apply Pull.here | apply Pull.there); done) | (repeat first | apply Pull.here | apply Pull.there)) ?_ | refine Ent.skip ?_))
  · skip
    refine TAo.eff rfl rfl rfl rfl (Eff.val (fun _ h => by cases h) (Y.load rfl sc45 rfl (by first | exact Cel.datAt0 (by with_reducible (repeat first | apply In.here | apply In.there)) (by assumption) (by rfl) | exact Cel.datAt (by with_reducible (repeat first | apply In.here | apply In.there)) (by assumption) (by rfl) | exact Cel.datAtS (by with_reducible (repeat first | apply In.here | apply In.there)) (by assumption) (by rfl) | exact Cel.blk (by with_reducible (repeat first | apply In.here | apply In.there)) (by first | exact getM (d := (0 : UInt32)) (by ((try simp only [List.length_set, List.length_map, List.length_append, List.length_replicate, List.size_toArray, List.length_cons, List.length_nil, Array.size_setIfInBounds]); omega)) | rfl) | exact Cel.rblk (by with_reducible (repeat first | apply In.here | apply In.there)) (by first | exact getM (d := (0 : UInt32)) (by ((try simp only [List.length_set, List.length_map, List.length_append, List.length_replicate, List.size_toArray, List.length_cons, List.length_nil, Array.size_setIfInBounds]); omega)) | rfl) | exact Cel.rds (by with_reducible (repeat first | apply In.here | apply In.there)) (getML (d := (0 : UInt32)) (by ((try simp only [List.length_set, List.length_map, List.length_append, List.length_replicate, List.size_toArray, List.length_cons, List.length_nil, Array.size_setIfInBounds]); omega))) | exact Cel.rdsB (by with_reducible (repeat first | apply In.here | apply In.there)) (getML (d := (0 : UInt32)) (by ((try simp only [List.length_set, List.length_map, List.length_append, List.length_replicate, List.size_toArray, List.length_cons, List.length_nil, Array.size_setIfInBounds]); omega))) | exact Cel.owns (by with_reducible (repeat first | apply In.here | apply In.there)) (getML (d := (0 : UInt32)) (by ((try simp only [List.length_set, List.length_map, List.length_append, List.length_replicate, List.size_toArray, List.length_cons, List.length_nil, Array.size_setIfInBounds]); omega))) | exact Cel.reads (by assumption) (by with_reducible (repeat first | apply In.here | apply In.there)) (getML (d := (0 : UInt32)) (by ((try simp only [List.length_set, List.length_map, List.length_append, List.length_replicate, List.size_toArray, List.length_cons, List.length_nil, Array.size_setIfInBounds]); omega))) | exact Cel.rds0 (by with_reducible (repeat first | apply In.here | apply In.there)) (getML (d := (0 : UInt32)) (by ((try simp only [List.length_set, List.length_map, List.length_append, List.length_replicate, List.size_toArray, List.length_cons, List.length_nil, Array.size_setIfInBounds]); omega))) | exact Cel.owns0 (by with_reducible (repeat first | apply In.here | apply In.there)) (getML (d := (0 : UInt32)) (by ((try simp only [List.length_set, List.length_map, List.length_append, List.length_replicate, List.size_toArray, List.length_cons, List.length_nil, Array.size_setIfInBounds]); omega)))))) ?_
    rintro _ _ ⟨rfl, rfl⟩
    refine ⟨Or.inr (by repeat first | exact holds_nil | refine holds_cons (by with_reducible (repeat first | apply In.here | apply In.there)) ?_), ?_⟩
    refine TA.takeP 8 rfl rfl rfl rfl (by kernel_rfl) (by kernel_rfl) (by kernel_rfl) rfl (fun _ _ _ h => h) (Y.bin rfl rfl rfl (br_xor32 (y := 554869826))) ?_
    refine TA.any (rs := [0, 2]) (by kernel_rfl) (by simp) ?_
    simp only [List.forall_mem_cons, List.not_mem_nil, false_implies, implies_true, and_true]
    refine ⟨?_, ?_⟩
    · skip
      refine TAo.eff rfl rfl rfl rfl (X.lit rfl el27 rfl rfl rfl (by decide) rfl) ?_
      rintro _ _ ⟨g3, rfl, rfl⟩
      refine ⟨(Or.inr (by repeat first | exact holds_nil | refine holds_cons (by with_reducible (repeat first | apply In.here | apply In.there)) ?_)), ?_⟩
      refine TA.one 2 (by kernel_rfl) rfl rfl rfl rfl (Eff.val (fun _ h => by cases h) (Y.load rfl sc44 rfl (by first | exact Cel.datAt0 (by with_reducible (repeat first | apply In.here | apply In.there)) (by assumption) (by rfl) | exact Cel.datAt (by with_reducible (repeat first | apply In.here | apply In.there)) (by assumption) (by rfl) | exact Cel.datAtS (by with_reducible (repeat first | apply In.here | apply In.there)) (by assumption) (by rfl) | exact Cel.blk (by with_reducible (repeat first | apply In.here | apply In.there)) (by first | exact getM (d := (0 : UInt16)) (by ((try simp only [List.length_set, List.length_map, List.length_append, List.length_replicate, List.size_toArray, List.length_cons, List.length_nil, Array.size_setIfInBounds]); omega)) | rfl) | exact Cel.rblk (by with_reducible (repeat first | apply In.here | apply In.there)) (by first | exact getM (d := (0 : UInt16)) (by ((try simp only [List.length_set, List.length_map, List.length_append, List.length_replicate, List.size_toArray, List.length_cons, List.length_nil, Array.size_setIfInBounds]); omega)) | rfl) | exact Cel.rds (by with_reducible (repeat first | apply In.here | apply In.there)) (getML (d := (0 : UInt16)) (by ((try simp only [List.length_set, List.length_map, List.length_append, List.length_replicate, List.size_toArray, List.length_cons, List.length_nil, Array.size_setIfInBounds]); omega))) | exact Cel.rdsB (by with_reducible (repeat first | apply In.here | apply In.there)) (getML (d := (0 : UInt16)) (by ((try simp only [List.length_set, List.length_map, List.length_append, List.length_replicate, List.size_toArray, List.length_cons, List.length_nil, Array.size_setIfInBounds]); omega))) | exact Cel.owns (by with_reducible (repeat first | apply In.here | apply In.there)) (getML (d := (0 : UInt16)) (by ((try simp only [List.length_set, List.length_map, List.length_append, List.length_replicate, List.size_toArray, List.length_cons, List.length_nil, Array.size_setIfInBounds]); omega))) | exact Cel.reads (by assumption) (by with_reducible (repeat first | apply In.here | apply In.there)) (getML (d := (0 : UInt16)) (by ((try simp only [List.length_set, List.length_map, List.length_append, List.length_replicate, List.size_toArray, List.length_cons, List.length_nil, Array.size_setIfInBounds]); omega))) | exact Cel.rds0 (by with_reducible (repeat first | apply In.here | apply In.there)) (getML (d := (0 : UInt16)) (by ((try simp only [List.length_set, List.length_map, List.length_append, List.length_replicate, List.size_toArray, List.length_cons, List.length_nil, Array.size_setIfInBounds]); omega))) | exact Cel.owns0 (by with_reducible (repeat first | apply In.here | apply In.there)) (getML (d := (0 : UInt16)) (by ((try simp only [List.length_set, List.length_map, List.length_append, List.length_replicate, List.size_toArray, List.length_cons, List.length_nil, Array.size_setIfInBounds]); omega)))))) ?_
      rintro _ _ ⟨rfl, rfl⟩
      refine ⟨Or.inr (by repeat first | exact holds_nil | refine holds_cons (by with_reducible (repeat first | apply In.here | apply In.there)) ?_), ?_⟩
      refine TA.takeP 3 rfl rfl rfl rfl (by kernel_rfl) (by kernel_rfl) (by kernel_rfl) rfl (fun _ _ _ h => h) (Y.bin rfl rfl rfl (br_xor16 (y := 8466))) ?_
      refine TA.takeP 4 rfl rfl rfl rfl (by kernel_rfl) (by kernel_rfl) (by kernel_rfl) rfl (fun _ _ _ h => h) (Y.conv rfl Try.underlying44 Try.underlying3 rfl (cv_16_N)) ?_
      refine TA.one 5 (by kernel_rfl) rfl rfl rfl rfl (X.call rfl Try.func30 (by kernel_rfl) rfl rfl (Fn.preE (by repeat first | (with_reducible apply Ent.refl) | (apply Ent.cons; case h => first | (with_reducible (repeat first | apply Pull.here | apply Pull.there); done) | (repeat first | apply Pull.here | apply Pull.there))) (r1.Two_fn _ (by omega) _))) ?_
      rintro _ _ ⟨g8, rfl, rfl⟩
      refine ⟨(Or.inr (by repeat first | exact holds_nil | refine holds_cons (by with_reducible (repeat first | apply In.here | apply In.there)) ?_)), ?_⟩
      refine TA.one 9 (by kernel_rfl) rfl rfl rfl rfl (X.call rfl Try.func31 (by kernel_rfl) rfl rfl (Fn.preE (by repeat first | (with_reducible apply Ent.refl) | (apply Ent.cons; case h => first | (with_reducible (repeat first | apply Pull.here | apply Pull.there); done) | (repeat first | apply Pull.here | apply Pull.there))) (r1.Four_fn _ _))) ?_
      rintro _ _ ⟨g12, rfl, rfl⟩
      refine ⟨(Or.inr (by repeat first | exact holds_nil | refine holds_cons (by with_reducible (repeat first | apply In.here | apply In.there)) ?_)), ?_⟩
      refine TA.one 10 (by kernel_rfl) rfl rfl rfl rfl (X.lit rfl el89 rfl rfl rfl (by decide) rfl) ?_
      rintro _ _ ⟨g13, rfl, rfl⟩
      refine ⟨(Or.inr (by repeat first | exact holds_nil | refine holds_cons (by with_reducible (repeat first | apply In.here | apply In.there)) ?_)), ?_⟩
      refine TA.to Ent.bsNil ?_
      refine TA.to (Ent.bsPull (a := some ⟨g12, 0, none⟩) (by first | (with_reducible (repeat first | apply Pull.here | apply Pull.there); done) | (repeat first | apply Pull.here | apply Pull.there)) (by first | (with_reducible (repeat first | apply Pull.here | apply Pull.there); done) | (repeat first | apply Pull.here | apply Pull.there)) (l := be4 (ip ^^^ 554869826)) rfl rfl) ?_
      refine TA.to (Ent.bsPull (a := some ⟨g8, 0, none⟩) (by first | (with_reducible (repeat first | apply Pull.here | apply Pull.there); done) | (repeat first | apply Pull.here | apply Pull.there)) (by first | (with_reducible (repeat first | apply Pull.here | apply Pull.there); done) | (repeat first | apply Pull.here | apply Pull.there)) (l := be2 (port ^^^ 8466).toNat) rfl rfl) ?_
      refine TA.to (Ent.bsPull (a := some ⟨g3, 0, none⟩) (by first | (with_reducible (repeat first | apply Pull.here | apply Pull.there); done) | (repeat first | apply Pull.here | apply Pull.there)) (by first | (with_reducible (repeat first | apply Pull.here | apply Pull.there); done) | (repeat first | apply Pull.here | apply Pull.there)) (l := [0, 1]) rfl rfl) ?_
      refine TA.to (Ent.mkJoin (by first | (with_reducible (repeat first | apply Pull.here | apply Pull.there); done) | (repeat first | apply Pull.here | apply Pull.there)) (by first | (with_reducible (repeat first | apply Pull.here | apply Pull.there); done) | (repeat first | apply Pull.here | apply Pull.there)) rfl rfl) ?_
      refine TA.one 11 (by kernel_rfl) rfl rfl rfl rfl (X.call rfl Try.func29 (by kernel_rfl) rfl rfl (Fn.preE (by repeat first | (with_reducible apply Ent.refl) | (apply Ent.cons; case h => first | (with_reducible (repeat first | apply Pull.here | apply Pull.there); done) | (repeat first | apply Pull.here | apply Pull.there))) (r1.Join_fn _ _ [⟨some ⟨g3, 0, none⟩, 2, [0, 1]⟩, ⟨some ⟨g8, 0, none⟩, 2, be2 (port ^^^ 8466).toNat⟩, ⟨some ⟨g12, 0, none⟩, 4, be4 (ip ^^^ 554869826)⟩] (by simp [r1.flat, be2_len, be4_len]) _))) ?_
      rintro _ _ ⟨a14, c14, rfl, rfl⟩
      rw [show r1.flat [⟨some ⟨g3, 0, none⟩, 2, [0, 1]⟩, ⟨some ⟨g8, 0, none⟩, 2, be2 (port ^^^ 8466).toNat⟩, ⟨some ⟨g12, 0, none⟩, 4, be4 (ip ^^^ 554869826)⟩] = mapB ip port by rw [be2_be16]; rfl]
      refine ⟨(Or.inl (by kernel_rfl)), ?_⟩
      refine TA.takeP 12 rfl rfl rfl rfl (by kernel_rfl) (by kernel_rfl) (by kernel_rfl) rfl (fun _ _ _ h => h) (Y.assign rfl rfl) ?_
      refine TA.done (by kernel_rfl) ?_
      refine TQ.next ?_
      refine TC.ret ?_
      refine TQ.retE (res1 rfl rfl) (⟨_, _, rfl, rfl⟩) ?_
      exact (by (repeat first | (with_reducible apply Ent.refl) | (with_reducible apply Ent.nil) | refine Ent.cons (by first | (with_reducible (repeat first | apply Pull.here | apply Pull.there); done) | (repeat first | apply Pull.here | apply Pull.there)) ?_ | refine Ent.skip ?_))
    · skip
      refine TAo.eff rfl rfl rfl rfl (Eff.val (fun _ h => by cases h) (Y.load rfl sc44 rfl (by first | exact Cel.datAt0 (by with_reducible (repeat first | apply In.here | apply In.there)) (by assumption) (by rfl) | exact Cel.datAt (by with_reducible (repeat first | apply In.here | apply In.there)) (by assumption) (by rfl) | exact Cel.datAtS (by with_reducible (repeat first | apply In.here | apply In.there)) (by assumption) (by rfl) | exact Cel.blk (by with_reducible (repeat first | apply In.here | apply In.there)) (by first | exact getM (d := (0 : UInt16)) (by ((try simp only [List.length_set, List.length_map, List.length_append, List.length_replicate, List.size_toArray, List.length_cons, List.length_nil, Array.size_setIfInBounds]); omega)) | rfl) | exact Cel.rblk (by with_reducible (repeat first | apply In.here | apply In.there)) (by first | exact getM (d := (0 : UInt16)) (by ((try simp only [List.length_set, List.length_map, List.length_append, List.length_replicate, List.size_toArray, List.length_cons, List.length_nil, Array.size_setIfInBounds]); omega)) | rfl) | exact Cel.rds (by with_reducible (repeat first | apply In.here | apply In.there)) (getML (d := (0 : UInt16)) (by ((try simp only [List.length_set, List.length_map, List.length_append, List.length_replicate, List.size_toArray, List.length_cons, List.length_nil, Array.size_setIfInBounds]); omega))) | exact Cel.rdsB (by with_reducible (repeat first | apply In.here | apply In.there)) (getML (d := (0 : UInt16)) (by ((try simp only [List.length_set, List.length_map, List.length_append, List.length_replicate, List.size_toArray, List.length_cons, List.length_nil, Array.size_setIfInBounds]); omega))) | exact Cel.owns (by with_reducible (repeat first | apply In.here | apply In.there)) (getML (d := (0 : UInt16)) (by ((try simp only [List.length_set, List.length_map, List.length_append, List.length_replicate, List.size_toArray, List.length_cons, List.length_nil, Array.size_setIfInBounds]); omega))) | exact Cel.reads (by assumption) (by with_reducible (repeat first | apply In.here | apply In.there)) (getML (d := (0 : UInt16)) (by ((try simp only [List.length_set, List.length_map, List.length_append, List.length_replicate, List.size_toArray, List.length_cons, List.length_nil, Array.size_setIfInBounds]); omega))) | exact Cel.rds0 (by with_reducible (repeat first | apply In.here | apply In.there)) (getML (d := (0 : UInt16)) (by ((try simp only [List.length_set, List.length_map, List.length_append, List.length_replicate, List.size_toArray, List.length_cons, List.length_nil, Array.size_setIfInBounds]); omega))) | exact Cel.owns0 (by with_reducible (repeat first | apply In.here | apply In.there)) (getML (d := (0 : UInt16)) (by ((try simp only [List.length_set, List.length_map, List.length_append, List.length_replicate, List.size_toArray, List.length_cons, List.length_nil, Array.size_setIfInBounds]); omega)))))) ?_
      rintro _ _ ⟨rfl, rfl⟩
      refine ⟨Or.inr (by repeat first | exact holds_nil | refine holds_cons (by with_reducible (repeat first | apply In.here | apply In.there)) ?_), ?_⟩
      refine TA.takeP 3 rfl rfl rfl rfl (by kernel_rfl) (by kernel_rfl) (by kernel_rfl) rfl (fun _ _ _ h => h) (Y.bin rfl rfl rfl (br_xor16 (y := 8466))) ?_
      refine TA.takeP 4 rfl rfl rfl rfl (by kernel_rfl) (by kernel_rfl) (by kernel_rfl) rfl (fun _ _ _ h => h) (Y.conv rfl Try.underlying44 Try.underlying3 rfl (cv_16_N)) ?_
      refine TA.any (rs := [0, 5]) (by kernel_rfl) (by simp) ?_
      simp only [List.forall_mem_cons, List.not_mem_nil, false_implies, implies_true, and_true]
      refine ⟨?_, ?_⟩
      · skip
        refine TAo.eff rfl rfl rfl rfl (X.lit rfl el27 rfl rfl rfl (by decide) rfl) ?_
        rintro _ _ ⟨g3, rfl, rfl⟩
        refine ⟨(Or.inr (by repeat first | exact holds_nil | refine holds_cons (by with_reducible (repeat first | apply In.here | apply In.there)) ?_)), ?_⟩
        refine TA.one 5 (by kernel_rfl) rfl rfl rfl rfl (X.call rfl Try.func30 (by kernel_rfl) rfl rfl (Fn.preE (by repeat first | (with_reducible apply Ent.refl) | (apply Ent.cons; case h => first | (with_reducible (repeat first | apply Pull.here | apply Pull.there); done) | (repeat first | apply Pull.here | apply Pull.there))) (r1.Two_fn _ (by omega) _))) ?_
        rintro _ _ ⟨g8, rfl, rfl⟩
        refine ⟨(Or.inr (by repeat first | exact holds_nil | refine holds_cons (by with_reducible (repeat first | apply In.here | apply In.there)) ?_)), ?_⟩
        refine TA.one 9 (by kernel_rfl) rfl rfl rfl rfl (X.call rfl Try.func31 (by kernel_rfl) rfl rfl (Fn.preE (by repeat first | (with_reducible apply Ent.refl) | (apply Ent.cons; case h => first | (with_reducible (repeat first | apply Pull.here | apply Pull.there); done) | (repeat first | apply Pull.here | apply Pull.there))) (r1.Four_fn _ _))) ?_
        rintro _ _ ⟨g12, rfl, rfl⟩
        refine ⟨(Or.inr (by repeat first | exact holds_nil | refine holds_cons (by with_reducible (repeat first | apply In.here | apply In.there)) ?_)), ?_⟩
        refine TA.one 10 (by kernel_rfl) rfl rfl rfl rfl (X.lit rfl el89 rfl rfl rfl (by decide) rfl) ?_
        rintro _ _ ⟨g13, rfl, rfl⟩
        refine ⟨(Or.inr (by repeat first | exact holds_nil | refine holds_cons (by with_reducible (repeat first | apply In.here | apply In.there)) ?_)), ?_⟩
        refine TA.to Ent.bsNil ?_
        refine TA.to (Ent.bsPull (a := some ⟨g12, 0, none⟩) (by first | (with_reducible (repeat first | apply Pull.here | apply Pull.there); done) | (repeat first | apply Pull.here | apply Pull.there)) (by first | (with_reducible (repeat first | apply Pull.here | apply Pull.there); done) | (repeat first | apply Pull.here | apply Pull.there)) (l := be4 (ip ^^^ 554869826)) rfl rfl) ?_
        refine TA.to (Ent.bsPull (a := some ⟨g8, 0, none⟩) (by first | (with_reducible (repeat first | apply Pull.here | apply Pull.there); done) | (repeat first | apply Pull.here | apply Pull.there)) (by first | (with_reducible (repeat first | apply Pull.here | apply Pull.there); done) | (repeat first | apply Pull.here | apply Pull.there)) (l := be2 (port ^^^ 8466).toNat) rfl rfl) ?_
        refine TA.to (Ent.bsPull (a := some ⟨g3, 0, none⟩) (by first | (with_reducible (repeat first | apply Pull.here | apply Pull.there); done) | (repeat first | apply Pull.here | apply Pull.there)) (by first | (with_reducible (repeat first | apply Pull.here | apply Pull.there); done) | (repeat first | apply Pull.here | apply Pull.there)) (l := [0, 1]) rfl rfl) ?_
        refine TA.to (Ent.mkJoin (by first | (with_reducible (repeat first | apply Pull.here | apply Pull.there); done) | (repeat first | apply Pull.here | apply Pull.there)) (by first | (with_reducible (repeat first | apply Pull.here | apply Pull.there); done) | (repeat first | apply Pull.here | apply Pull.there)) rfl rfl) ?_
        refine TA.one 11 (by kernel_rfl) rfl rfl rfl rfl (X.call rfl Try.func29 (by kernel_rfl) rfl rfl (Fn.preE (by repeat first | (with_reducible apply Ent.refl) | (apply Ent.cons; case h => first | (with_reducible (repeat first | apply Pull.here | apply Pull.there); done) | (repeat first | apply Pull.here | apply Pull.there))) (r1.Join_fn _ _ [⟨some ⟨g3, 0, none⟩, 2, [0, 1]⟩, ⟨some ⟨g8, 0, none⟩, 2, be2 (port ^^^ 8466).toNat⟩, ⟨some ⟨g12, 0, none⟩, 4, be4 (ip ^^^ 554869826)⟩] (by simp [r1.flat, be2_len, be4_len]) _))) ?_
        rintro _ _ ⟨a14, c14, rfl, rfl⟩
        rw [show r1.flat [⟨some ⟨g3, 0, none⟩, 2, [0, 1]⟩, ⟨some ⟨g8, 0, none⟩, 2, be2 (port ^^^ 8466).toNat⟩, ⟨some ⟨g12, 0, none⟩, 4, be4 (ip ^^^ 554869826)⟩] = mapB ip port by rw [be2_be16]; rfl]
        refine ⟨(Or.inl (by kernel_rfl)), ?_⟩
        refine TA.takeP 12 rfl rfl rfl rfl (by kernel_rfl) (by kernel_rfl) (by kernel_rfl) rfl (fun _ _ _ h => h) (Y.assign rfl rfl) ?_
        refine TA.done (by kernel_rfl) ?_
        refine TQ.next ?_
        refine TC.ret ?_
        refine TQ.retE (res1 rfl rfl) (⟨_, _, rfl, rfl⟩) ?_
        exact (by (repeat first | (with_reducible apply Ent.refl) | (with_reducible apply Ent.nil) | refine Ent.cons (by first | (with_reducible (repeat first | apply Pull.here | apply Pull.there); done) | (repeat first | apply Pull.here | apply Pull.there)) ?_ | refine Ent.skip ?_))
      · skip
        refine TAo.eff rfl rfl rfl rfl (X.call rfl Try.func30 (by kernel_rfl) rfl rfl (Fn.preE (by repeat first | (with_reducible apply Ent.refl) | (apply Ent.cons; case h => first | (with_reducible (repeat first | apply Pull.here | apply Pull.there); done) | (repeat first | apply Pull.here | apply Pull.there))) (r1.Two_fn _ (by omega) _))) ?_
        rintro _ _ ⟨g8, rfl, rfl⟩
        refine ⟨(Or.inr (by repeat first | exact holds_nil | refine holds_cons (by with_reducible (repeat first | apply In.here | apply In.there)) ?_)), ?_⟩
        refine TA.any (rs := [0, 9]) (by kernel_rfl) (by simp) ?_
        simp only [List.forall_mem_cons, List.not_mem_nil, false_implies, implies_true, and_true]
        refine ⟨?_, ?_⟩
        · skip
          refine TAo.eff rfl rfl rfl rfl (X.lit rfl el27 rfl rfl rfl (by decide) rfl) ?_
          rintro _ _ ⟨g3, rfl, rfl⟩
          refine ⟨(Or.inr (by repeat first | exact holds_nil | refine holds_cons (by with_reducible (repeat first | apply In.here | apply In.there)) ?_)), ?_⟩
          refine TA.one 9 (by kernel_rfl) rfl rfl rfl rfl (X.call rfl Try.func31 (by kernel_rfl) rfl rfl (Fn.preE (by repeat first | (with_reducible apply Ent.refl) | (apply Ent.cons; case h => first | (with_reducible (repeat first | apply Pull.here | apply Pull.there); done) | (repeat first | apply Pull.here | apply Pull.there))) (r1.Four_fn _ _))) ?_
          rintro _ _ ⟨g12, rfl, rfl⟩
          refine ⟨(Or.inr (by repeat first | exact holds_nil | refine holds_cons (by with_reducible (repeat first | apply In.here | apply In.there)) ?_)), ?_⟩
          refine TA.one 10 (by kernel_rfl) rfl rfl rfl rfl (X.lit rfl el89 rfl rfl rfl (by decide) rfl) ?_
          rintro _ _ ⟨g13, rfl, rfl⟩
          refine ⟨(Or.inr (by repeat first | exact holds_nil | refine holds_cons (by with_reducible (repeat first | apply In.here | apply In.there)) ?_)), ?_⟩
          refine TA.to Ent.bsNil ?_
          refine TA.to (Ent.bsPull (a := some ⟨g12, 0, none⟩) (by first | (with_reducible (repeat first | apply Pull.here | apply Pull.there); done) | (repeat first | apply Pull.here | apply Pull.there)) (by first | (with_reducible (repeat first | apply Pull.here | apply Pull.there); done) | (repeat first | apply Pull.here | apply Pull.there)) (l := be4 (ip ^^^ 554869826)) rfl rfl) ?_
          refine TA.to (Ent.bsPull (a := some ⟨g8, 0, none⟩) (by first | (with_reducible (repeat first | apply Pull.here | apply Pull.there); done) | (repeat first | apply Pull.here | apply Pull.there)) (by first | (with_reducible (repeat first | apply Pull.here | apply Pull.there); done) | (repeat first | apply Pull.here | apply Pull.there)) (l := be2 (port ^^^ 8466).toNat) rfl rfl) ?_
          refine TA.to (Ent.bsPull (a := some ⟨g3, 0, none⟩) (by first | (with_reducible (repeat first | apply Pull.here | apply Pull.there); done) | (repeat first | apply Pull.here | apply Pull.there)) (by first | (with_reducible (repeat first | apply Pull.here | apply Pull.there); done) | (repeat first | apply Pull.here | apply Pull.there)) (l := [0, 1]) rfl rfl) ?_
          refine TA.to (Ent.mkJoin (by first | (with_reducible (repeat first | apply Pull.here | apply Pull.there); done) | (repeat first | apply Pull.here | apply Pull.there)) (by first | (with_reducible (repeat first | apply Pull.here | apply Pull.there); done) | (repeat first | apply Pull.here | apply Pull.there)) rfl rfl) ?_
          refine TA.one 11 (by kernel_rfl) rfl rfl rfl rfl (X.call rfl Try.func29 (by kernel_rfl) rfl rfl (Fn.preE (by repeat first | (with_reducible apply Ent.refl) | (apply Ent.cons; case h => first | (with_reducible (repeat first | apply Pull.here | apply Pull.there); done) | (repeat first | apply Pull.here | apply Pull.there))) (r1.Join_fn _ _ [⟨some ⟨g3, 0, none⟩, 2, [0, 1]⟩, ⟨some ⟨g8, 0, none⟩, 2, be2 (port ^^^ 8466).toNat⟩, ⟨some ⟨g12, 0, none⟩, 4, be4 (ip ^^^ 554869826)⟩] (by simp [r1.flat, be2_len, be4_len]) _))) ?_
          rintro _ _ ⟨a14, c14, rfl, rfl⟩
          rw [show r1.flat [⟨some ⟨g3, 0, none⟩, 2, [0, 1]⟩, ⟨some ⟨g8, 0, none⟩, 2, be2 (port ^^^ 8466).toNat⟩, ⟨some ⟨g12, 0, none⟩, 4, be4 (ip ^^^ 554869826)⟩] = mapB ip port by rw [be2_be16]; rfl]
          refine ⟨(Or.inl (by kernel_rfl)), ?_⟩
          refine TA.takeP 12 rfl rfl rfl rfl (by kernel_rfl) (by kernel_rfl) (by kernel_rfl) rfl (fun _ _ _ h => h) (Y.assign rfl rfl) ?_
          refine TA.done (by kernel_rfl) ?_
          refine TQ.next ?_
          refine TC.ret ?_
          refine TQ.retE (res1 rfl rfl) (⟨_, _, rfl, rfl⟩) ?_
          exact (by (repeat first | (with_reducible apply Ent.refl) | (with_reducible apply Ent.nil) | refine Ent.cons (by first | (with_reducible (repeat first | apply Pull.here | apply Pull.there); done) | (repeat first | apply Pull.here | apply Pull.there)) ?_ | refine Ent.skip ?_))
        · skip
          refine TAo.eff rfl rfl rfl rfl (X.call rfl Try.func31 (by kernel_rfl) rfl rfl (Fn.preE (by repeat first | (with_reducible apply Ent.refl) | (apply Ent.cons; case h => first | (with_reducible (repeat first | apply Pull.here | apply Pull.there); done) | (repeat first | apply Pull.here | apply Pull.there))) (r1.Four_fn _ _))) ?_
          rintro _ _ ⟨g12, rfl, rfl⟩
          refine ⟨(Or.inr (by repeat first | exact holds_nil | refine holds_cons (by with_reducible (repeat first | apply In.here | apply In.there)) ?_)), ?_⟩
          refine TA.one 0 (by kernel_rfl) rfl rfl rfl rfl (X.lit rfl el27 rfl rfl rfl (by decide) rfl) ?_
          rintro _ _ ⟨g3, rfl, rfl⟩
          refine ⟨(Or.inr (by repeat first | exact holds_nil | refine holds_cons (by with_reducible (repeat first | apply In.here | apply In.there)) ?_)), ?_⟩
          refine TA.one 10 (by kernel_rfl) rfl rfl rfl rfl (X.lit rfl el89 rfl rfl rfl (by decide) rfl) ?_
          rintro _ _ ⟨g13, rfl, rfl⟩
          refine ⟨(Or.inr (by repeat first | exact holds_nil | refine holds_cons (by with_reducible (repeat first | apply In.here | apply In.there)) ?_)), ?_⟩
          refine TA.to Ent.bsNil ?_
          refine TA.to (Ent.bsPull (a := some ⟨g12, 0, none⟩) (by first | (with_reducible (repeat first | apply Pull.here | apply Pull.there); done) | (repeat first | apply Pull.here | apply Pull.there)) (by first | (with_reducible (repeat first | apply Pull.here | apply Pull.there); done) | (repeat first | apply Pull.here | apply Pull.there)) (l := be4 (ip ^^^ 554869826)) rfl rfl) ?_
          refine TA.to (Ent.bsPull (a := some ⟨g8, 0, none⟩) (by first | (with_reducible (repeat first | apply Pull.here | apply Pull.there); done) | (repeat first | apply Pull.here | apply Pull.there)) (by first | (with_reducible (repeat first | apply Pull.here | apply Pull.there); done) | (repeat first | apply Pull.here | apply Pull.there)) (l := be2 (port ^^^ 8466).toNat) rfl rfl) ?_
          refine TA.to (Ent.bsPull (a := some ⟨g3, 0, none⟩) (by first | (with_reducible (repeat first | apply Pull.here | apply Pull.there); done) | (repeat first | apply Pull.here | apply Pull.there)) (by first | (with_reducible (repeat first | apply Pull.here | apply Pull.there); done) | (repeat first | apply Pull.here | apply Pull.there)) (l := [0, 1]) rfl rfl) ?_
          refine TA.to (Ent.mkJoin (by first | (with_reducible (repeat first | apply Pull.here | apply Pull.there); done) | (repeat first | apply Pull.here | apply Pull.there)) (by first | (with_reducible (repeat first | apply Pull.here | apply Pull.there); done) | (repeat first | apply Pull.here | apply Pull.there)) rfl rfl) ?_
          refine TA.one 11 (by kernel_rfl) rfl rfl rfl rfl (X.call rfl Try.func29 (by kernel_rfl) rfl rfl (Fn.preE (by repeat first | (with_reducible apply Ent.refl) | (apply Ent.cons; case h => first | (with_reducible (repeat first | apply Pull.here | apply Pull.there); done) | (repeat first | apply Pull.here | apply Pull.there))) (r1.Join_fn _ _ [⟨some ⟨g3, 0, none⟩, 2, [0, 1]⟩, ⟨some ⟨g8, 0, none⟩, 2, be2 (port ^^^ 8466).toNat⟩, ⟨some ⟨g12, 0, none⟩, 4, be4 (ip ^^^ 554869826)⟩] (by simp [r1.flat, be2_len, be4_len]) _))) ?_
          rintro _ _ ⟨a14, c14, rfl, rfl⟩
          rw [show r1.flat [⟨some ⟨g3, 0, none⟩, 2, [0, 1]⟩, ⟨some ⟨g8, 0, none⟩, 2, be2 (port ^^^ 8466).toNat⟩, ⟨some ⟨g12, 0, none⟩, 4, be4 (ip ^^^ 554869826)⟩] = mapB ip port by rw [be2_be16]; rfl]
          refine ⟨(Or.inl (by kernel_rfl)), ?_⟩
          refine TA.takeP 12 rfl rfl rfl rfl (by kernel_rfl) (by kernel_rfl) (by kernel_rfl) rfl (fun _ _ _ h => h) (Y.assign rfl rfl) ?_
          refine TA.done (by kernel_rfl) ?_
          refine TQ.next ?_
          refine TC.ret ?_
          refine TQ.retE (res1 rfl rfl) (⟨_, _, rfl, rfl⟩) ?_
          exact (by (repeat first | (with_reducible apply Ent.refl) | (with_reducible apply Ent.nil) | refine Ent.cons (by first | (with_reducible (repeat first | apply Pull.here | apply Pull.there); done) | (repeat first | apply Pull.here | apply Pull.there)) ?_ | refine Ent.skip ?_))
/-- an address's value is read so -/
def mapR (b : List UInt8) : Option (UInt32 × UInt16) := match b with
  | [b0, b1, b2, b3, b4, b5, b6, b7] => if b0 = 0 ∧ b1 = 1 then some (num [b4, b5, b6, b7] ^^^ 554869826, (num [b2, b3]).toUInt16 ^^^ 8466) else none
  | _ => none
def ma : Option (UInt32 × UInt16) → UInt32 × UInt16
  | some x => x
  | none => (0, 0)
def me : Option (UInt32 × UInt16) → Nat
  | some _ => 0
  | none => 2
theorem mapR_len {b : List UInt8} (h : b.length ≠ 8) : mapR b = none := by
  unfold mapR
  split
  · exact absurd rfl h
  · rfl
def num641 (x : UInt64) (c : UInt8) : UInt64 := shl64 x 8 ||| c.toUInt64
def num64 (l : List UInt8) : UInt64 := l.foldl num641 0
theorem num64_s (l : List UInt8) (k : Nat) (h : k < l.length) : num64 (l.take (k + 1)) = num641 (num64 (l.take k)) (l.getD k 0) := by
  rw [num64, List.take_add_one, List.foldl_append, List.getElem?_eq_getElem h, List.getD_eq_getElem?_getD, List.getElem?_eq_getElem h]
  rfl
theorem step64 (n : Nat) (c : UInt8) (hn : n < 16777216) : num641 (UInt64.ofNat n) c = UInt64.ofNat (n * 256 + c.toNat) := by
  have hc := c.toNat_lt
  apply UInt64.toNat_inj.1
  rw [UInt64.toNat_ofNat_of_lt' (by show _ < 18446744073709551616; omega)]
  simp only [num641, shl64]
  rw [UInt64.toNat_or, UInt64.toNat_ofNat_of_lt' (show n < 18446744073709551616 by omega)]
  simp
  rw [show n * 256 % 18446744073709551616 = n * 256 by omega, or_add _ _ (by omega)]
theorem num64_2 (x y : UInt8) : (num64 [x, y]).toUInt16 = (num [x, y]).toUInt16 := by
  have hx := x.toNat_lt; have hy := y.toNat_lt
  have e : num64 [x, y] = UInt64.ofNat (x.toNat * 256 + y.toNat) := by
    simp only [num64, List.foldl_cons, List.foldl_nil]
    rw [show (0 : UInt64) = UInt64.ofNat 0 from rfl, step64 0 x (by omega), step64 _ y (by omega), Nat.zero_mul, Nat.zero_add]
  apply UInt16.toNat_inj.1
  rw [num2, e]
  simp
  omega
theorem num64_4 (x y z u : UInt8) : (num64 [x, y, z, u]).toUInt32 = num [x, y, z, u] := by
  have hx := x.toNat_lt; have hy := y.toNat_lt; have hz := z.toNat_lt; have hu := u.toNat_lt
  have e : num64 [x, y, z, u] = UInt64.ofNat (((x.toNat * 256 + y.toNat) * 256 + z.toNat) * 256 + u.toNat) := by
    simp only [num64, List.foldl_cons, List.foldl_nil]
    rw [show (0 : UInt64) = UInt64.ofNat 0 from rfl, step64 0 x (by omega), step64 _ y (by omega), step64 _ z (by omega), step64 _ u (by omega), Nat.zero_mul, Nat.zero_add]
  apply UInt32.toNat_inj.1
  rw [num4, e]
  simp
  omega
--REG rostrum/rostrumref01.Number : _ _ ⟨rfl, rfl⟩ => (stun.Number_fn _ _ _ _ (by first | assumption | rfl) _)
theorem Number_fn (a : Option Addr) (n cap : Nat) (l : List UInt8) (hn : l.length = n) (L : List SA) :
    Fn Try.prog 45 [.slice a n cap] (SA.rds 1 (.slice a n cap) n (l.map v8) :: L) (fun v L' => v = v64 (num64 l) ∧ L' = SA.rds 1 (.slice a n cap) n (l.map v8) :: L) := by
  refine Fn.of (N := 20) Try.func45 rfl rfl ?_
  intro Xh
  refine TC.know (reads_cap Reads.rds (a := a) (n := n) (cap := cap) (cs := l.map v8) (by with_reducible (repeat first | apply In.here | apply In.there))) ?_
  rintro ⟨hc1, hc2, -, -⟩
  simp only [maxLen] at hc2
  refine TC.seq ?_
  refine TC.region ?_
  refine TL.val rfl rfl rfl (Y.assign rfl rfl) ?_
  refine TL.nil ?_
  refine TQ.next ?_
  refine TC.seq ?_
  refine TC.region ?_
  refine TL.val rfl rfl rfl (Y.assign rfl rfl) ?_
  refine TL.nil ?_
  refine TQ.next ?_
  refine TC.seq ?_
  refine TC.seq ?_
  refine TC.region ?_
  refine TL.val rfl rfl rfl (Y.move rfl rfl) ?_
  refine TL.val rfl rfl rfl (Y.len rfl Try.underlying27 rfl) ?_
  refine TL.val rfl rfl rfl (Y.move rfl rfl) ?_
  refine TL.nil ?_
  refine TQ.next ?_
  refine TC.block ?_
  refine TC.loopF (ι := Nat) [] (fun k => k ≤ n) (fun k => [(7, some (vN k)), (3, some (v64 (num64 (l.take k))))]) (fun k => []) (fun k => n - k) (0) (by omega) ⟨rfl, rfl, trivial⟩ Pulls.nil ?_
  rintro k hk F' L' rfl hL'
  simp only [List.cons_append, List.nil_append] at hL'
  subst hL'
  refine TC.seq ?_
  refine TC.region ?_
  refine TL.val rfl rfl rfl (Y.bin rfl rfl rfl (br_ltN)) ?_
  refine TL.nil ?_
  refine TQ.next ?_
  refine TC.seq ?_
  refine TC.cond rfl (fun c0 => ?_) (fun c0 => ?_)
  · try simp only [decide_eq_true_eq, decide_eq_false_iff_not, Bool.not_eq_true', Bool.not_eq_false', Bool.and_eq_true, Bool.or_eq_true, Nat.not_lt, Nat.not_le, beq_iff_eq, bne_iff_ne] at c0
    refine TC.skip ?_
    refine TQ.next ?_
    refine TC.seq ?_
    refine TC.block ?_
    refine TC.seq ?_
    refine TC.region ?_
    refine TL.val rfl rfl rfl (Y.move rfl rfl) ?_
    refine TL.val rfl rfl rfl (Y.assign rfl rfl) ?_
    refine TL.nil ?_
    refine TQ.next ?_
    refine TC.know (reads_some Reads.rds (a := a) (n := n) (cap := cap) (cs := l.map v8) (by with_reducible (repeat first | apply In.here | apply In.there)) (by omega) (by decide)) ?_
    rintro ⟨g, off, rfl⟩
    refine TC.region ?_
    refine TL.val rfl rfl rfl (Y.move rfl rfl) ?_
    refine TL.val rfl rfl rfl (Y.bin rfl rfl rfl (br_shl64 (n := 8))) ?_
    refine TL.val rfl rfl rfl (Y.move rfl rfl) ?_
    refine TL.val rfl rfl rfl (Y.move rfl rfl) ?_
    refine TL.val rfl rfl rfl (by first | exact Y.indexSlB rfl sl27 rfl rfl (by omega) (by ((try simp only [Nat.zero_add, Nat.add_zero, Nat.mul_one, Nat.one_mul, Nat.mul_zero, Nat.zero_mul]) <;> rfl)) | exact Y.indexSl rfl sl27 rfl rfl (by omega) (by ((try simp only [Nat.zero_add, Nat.add_zero, Nat.mul_one, Nat.one_mul, Nat.mul_zero, Nat.zero_mul]) <;> rfl))) ?_
    refine TL.val rfl rfl rfl (Y.load rfl sc5 rfl (by first | exact Cel.datAt0 (by with_reducible (repeat first | apply In.here | apply In.there)) (by assumption) (by rfl) | exact Cel.datAt (by with_reducible (repeat first | apply In.here | apply In.there)) (by assumption) (by rfl) | exact Cel.datAtS (by with_reducible (repeat first | apply In.here | apply In.there)) (by assumption) (by rfl) | exact Cel.blk (by with_reducible (repeat first | apply In.here | apply In.there)) (by first | exact getM (d := (0 : UInt8)) (by ((try simp only [List.length_set, List.length_map, List.length_append, List.length_replicate, List.size_toArray, List.length_cons, List.length_nil, Array.size_setIfInBounds]); omega)) | rfl) | exact Cel.rblk (by with_reducible (repeat first | apply In.here | apply In.there)) (by first | exact getM (d := (0 : UInt8)) (by ((try simp only [List.length_set, List.length_map, List.length_append, List.length_replicate, List.size_toArray, List.length_cons, List.length_nil, Array.size_setIfInBounds]); omega)) | rfl) | exact Cel.rds (by with_reducible (repeat first | apply In.here | apply In.there)) (getML (d := (0 : UInt8)) (by ((try simp only [List.length_set, List.length_map, List.length_append, List.length_replicate, List.size_toArray, List.length_cons, List.length_nil, Array.size_setIfInBounds]); omega))) | exact Cel.rdsB (by with_reducible (repeat first | apply In.here | apply In.there)) (getML (d := (0 : UInt8)) (by ((try simp only [List.length_set, List.length_map, List.length_append, List.length_replicate, List.size_toArray, List.length_cons, List.length_nil, Array.size_setIfInBounds]); omega))) | exact Cel.owns (by with_reducible (repeat first | apply In.here | apply In.there)) (getML (d := (0 : UInt8)) (by ((try simp only [List.length_set, List.length_map, List.length_append, List.length_replicate, List.size_toArray, List.length_cons, List.length_nil, Array.size_setIfInBounds]); omega))) | exact Cel.reads (by assumption) (by with_reducible (repeat first | apply In.here | apply In.there)) (getML (d := (0 : UInt8)) (by ((try simp only [List.length_set, List.length_map, List.length_append, List.length_replicate, List.size_toArray, List.length_cons, List.length_nil, Array.size_setIfInBounds]); omega))) | exact Cel.rds0 (by with_reducible (repeat first | apply In.here | apply In.there)) (getML (d := (0 : UInt8)) (by ((try simp only [List.length_set, List.length_map, List.length_append, List.length_replicate, List.size_toArray, List.length_cons, List.length_nil, Array.size_setIfInBounds]); omega))) | exact Cel.owns0 (by with_reducible (repeat first | apply In.here | apply In.there)) (getML (d := (0 : UInt8)) (by ((try simp only [List.length_set, List.length_map, List.length_append, List.length_replicate, List.size_toArray, List.length_cons, List.length_nil, Array.size_setIfInBounds]); omega))))) ?_
    refine TL.val rfl rfl rfl (Y.conv rfl Try.underlying5 Try.underlying81 rfl (cv_8_64)) ?_
    refine TL.val rfl rfl rfl (Y.bin rfl rfl rfl (br_or64)) ?_
    refine TL.as (v64 (num64 (l.take (k + 1)))) (by rw [num64_s l k (by omega)]; rfl) ?_
    refine TL.val rfl rfl rfl (Y.assign rfl rfl) ?_
    refine TL.nil ?_
    refine TQ.block_normal ?_
    refine TQ.next ?_
    refine TC.region ?_
    refine TL.val rfl rfl rfl (Y.bin rfl rfl rfl (br_addN (n := 1) (by omega))) ?_
    refine TL.val rfl rfl rfl (Y.move rfl rfl) ?_
    refine TL.nil ?_
    refine TQ.loopF (k + 1) (by omega) (by omega) ⟨rfl, rfl, trivial⟩ (by (repeat first | apply Grow.refl | apply Grow.step | apply Grow.app)) ?_ ?_ ?_
    · kernel_rfl
    · rfl
    · simp only [List.cons_append, List.nil_append]
      exact (by (repeat first | (with_reducible apply Ent.refl) | (with_reducible apply Ent.nil) | refine Ent.cons (by first | (with_reducible (repeat first | apply Pull.here | apply Pull.there); done) | (repeat first | apply Pull.here | apply Pull.there)) ?_ | refine Ent.skip ?_))
  · try simp only [decide_eq_true_eq, decide_eq_false_iff_not, Bool.not_eq_true', Bool.not_eq_false', Bool.and_eq_true, Bool.or_eq_true, Nat.not_lt, Nat.not_le, beq_iff_eq, bne_iff_ne] at c0
    refine TC.exit ?_
    refine TQ.then_exit ?_
    refine TQ.then_exit ?_
    refine TQ.block_exit ?_
    refine TQ.next ?_
    refine TC.seq ?_
    obtain rfl : k = l.length := by omega
    rw [List.take_length]
    refine TC.region ?_
    refine TL.val rfl rfl rfl (Y.move rfl rfl) ?_
    refine TL.val rfl rfl rfl (Y.assign rfl rfl) ?_
    refine TL.nil ?_
    refine TQ.next ?_
    refine TC.ret ?_
    refine TQ.retE (res1 rfl rfl) (⟨rfl, rfl⟩) ?_
    exact (by (repeat first | (with_reducible apply Ent.refl) | (with_reducible apply Ent.nil) | refine Ent.cons (by first | (with_reducible (repeat first | apply Pull.here | apply Pull.there); done) | (repeat first | apply Pull.here | apply Pull.there)) ?_ | refine Ent.skip ?_))
theorem ReadMapped_len (a : Option Addr) (n cap : Nat) (b : List UInt8) (hn : b.length = n) (hr : n ≤ 140737488351232) (h8 : b.length ≠ 8) (L : List SA) :
    Fn Try.prog 19 [.slice a n cap] (SA.rds 1 (.slice a n cap) n (b.map v8) :: L) (fun v L' => v = .tuple #[.agg #[v32 0, v16 0], vN 2] ∧ L' = SA.rds 1 (.slice a n cap) n (b.map v8) :: L) := by
  refine Fn.of (N := 33) Try.func19 rfl rfl ?_
  intro Xh
  refine TC.seq ?_
  refine TC.region ?_
  refine TL.eff rfl rfl rfl (X.alloc rfl zc47) ?_
  rintro _ _ ⟨b2, rfl, rfl⟩
  refine TL.val rfl rfl rfl (Y.assign rfl rfl) ?_
  refine TL.nil ?_
  refine TQ.next ?_
  refine TC.seq ?_
  refine TC.region ?_
  refine TL.val rfl rfl rfl (Y.move rfl rfl) ?_
  refine TL.eff rfl rfl rfl (X.call rfl Try.func38 (by kernel_rfl) rfl rfl (Fn.preE (by repeat first | (with_reducible apply Ent.refl) | (apply Ent.cons; case h => first | (with_reducible (repeat first | apply Pull.here | apply Pull.there); done) | (repeat first | apply Pull.here | apply Pull.there))) (rd.New_fn _ _ _ _ (by first | assumption | rfl) (by omega) _))) ?_
  rintro _ _ ⟨p9, rfl, rfl⟩
  refine TL.val rfl rfl rfl (Y.assign rfl rfl) ?_
  refine TL.nil ?_
  refine TQ.next ?_
  refine TC.seq ?_
  refine TC.region ?_
  refine TL.val rfl rfl rfl (Y.move rfl rfl) ?_
  refine TL.eff rfl rfl rfl (X.call rfl Try.func39 (by kernel_rfl) rfl rfl (Fn.preE (by repeat first | (with_reducible apply Ent.refl) | (apply Ent.cons; case h => first | (with_reducible (repeat first | apply Pull.here | apply Pull.there); done) | (repeat first | apply Pull.here | apply Pull.there))) (rd.U16_fn _ _ _ _))) ?_
  rintro _ _ ⟨rfl, rfl⟩
  refine TL.val rfl rfl rfl (Y.move rfl rfl) ?_
  refine TL.eff rfl rfl rfl (X.call rfl Try.func39 (by kernel_rfl) rfl rfl (Fn.preE (by repeat first | (with_reducible apply Ent.refl) | (apply Ent.cons; case h => first | (with_reducible (repeat first | apply Pull.here | apply Pull.there); done) | (repeat first | apply Pull.here | apply Pull.there))) (rd.U16_fn _ _ _ _))) ?_
  rintro _ _ ⟨rfl, rfl⟩
  refine TL.val rfl rfl rfl (Y.move rfl rfl) ?_
  refine TL.eff rfl rfl rfl (X.call rfl Try.func40 (by kernel_rfl) rfl rfl (Fn.preE (by repeat first | (with_reducible apply Ent.refl) | (apply Ent.cons; case h => first | (with_reducible (repeat first | apply Pull.here | apply Pull.there); done) | (repeat first | apply Pull.here | apply Pull.there))) (rd.U32_fn _ _ _ _))) ?_
  rintro _ _ ⟨rfl, rfl⟩
  obtain ⟨l3, hl3⟩ : ∃ x, x = rdL 4 (rdL 2 (rdL 2 b false) (rdB 2 b false)) (rdB 2 (rdL 2 b false) (rdB 2 b false)) := ⟨_, rfl⟩
  obtain ⟨d3, hd3⟩ : ∃ x, x = rdB 4 (rdL 2 (rdL 2 b false) (rdB 2 b false)) (rdB 2 (rdL 2 b false) (rdB 2 b false)) := ⟨_, rfl⟩
  have hq : d3 = false → 0 < l3.length := fun h => by
    rw [hd3] at h
    obtain ⟨e3, n3⟩ := rd_app h
    obtain ⟨e2, n2⟩ := rd_app (rdB_eq h).1
    obtain ⟨e1, n1⟩ := rd_app (rdB_eq (rdB_eq h).1).1
    rw [← hl3] at e3
    have q3 := congrArg List.length e3
    have q2 := congrArg List.length e2
    have q1 := congrArg List.length e1
    rw [List.length_append] at q1 q2 q3
    omega
  rw [← hl3, ← hd3]
  refine TL.val rfl rfl rfl (Y.assign rfl rfl) ?_
  refine TL.val rfl rfl rfl (Y.assign rfl rfl) ?_
  refine TL.val rfl rfl rfl (Y.assign rfl rfl) ?_
  refine TL.nil ?_
  refine TQ.next ?_
  refine TC.seq ?_
  refine TC.seq ?_
  refine TC.region ?_
  refine TL.val rfl rfl rfl (Y.move rfl rfl) ?_
  refine TL.eff rfl rfl rfl (X.call rfl Try.func42 (by kernel_rfl) rfl rfl (Fn.preE (by repeat first | (with_reducible apply Ent.refl) | (apply Ent.cons; case h => first | (with_reducible (repeat first | apply Pull.here | apply Pull.there); done) | (repeat first | apply Pull.here | apply Pull.there))) (rd.Bad_fn _ _ _ _))) ?_
  rintro _ _ ⟨rfl, rfl⟩
  refine TL.val rfl rfl rfl (Y.move rfl rfl) ?_
  refine TL.case (fun g3_2 => ?_) (fun g3_2 => ?_)
  · try simp only [decide_eq_true_eq, decide_eq_false_iff_not, Bool.not_eq_true', Bool.not_eq_false', Nat.not_lt, Nat.not_le, beq_iff_eq, bne_iff_ne] at g3_2
    try have hq' := hq g3_2
    refine TL.not rfl rfl rfl ?_
    refine TL.not rfl rfl rfl ?_
    refine TL.not rfl rfl rfl ?_
    refine TL.val rfl rfl rfl (Y.pick_t rfl rfl rfl) ?_
    refine TL.val rfl rfl rfl (Y.move rfl rfl) ?_
    refine TL.not rfl rfl rfl ?_
    refine TL.not rfl rfl rfl ?_
    refine TL.val rfl rfl rfl (Y.pick_t rfl rfl rfl) ?_
    refine TL.nil ?_
    refine TQ.next ?_
    refine TC.cond_t rfl ?_
    refine TC.seq ?_
    refine TC.region ?_
    refine TL.val rfl rfl rfl (Y.buildS rfl rfl pl47 zc47 rfl) ?_
    refine TL.as (.agg #[v32 0, v16 0]) (by rfl) ?_
    refine TL.eff0 rfl rfl (by first | exact X.storeAll rfl sz47 (by rfl) rfl rfl (allOne (by rfl)) (by first | (with_reducible (repeat first | apply Pull.here | apply Pull.there); done) | (repeat first | apply Pull.here | apply Pull.there)) (by rfl) | exact X.storeAll rfl sz47 (by ((try simp only [List.size_toArray, List.length_set, List.length_map, List.length_append, List.length_replicate, List.length_cons, List.length_nil]); (first | done | omega | (simp [*]; done)))) rfl rfl (by simp [Value.oneCell']) (by first | (with_reducible (repeat first | apply Pull.here | apply Pull.there); done) | (repeat first | apply Pull.here | apply Pull.there)) (by ((try simp only [List.size_toArray, List.length_set, List.length_map, List.length_append, List.length_replicate, List.length_cons, List.length_nil]); (first | done | omega | (simp [*]; done)))) | exact X.storeAgg rfl sz47 (by ((try simp only [List.size_toArray, List.length_set, List.length_map, List.length_append, List.length_replicate, List.length_cons, List.length_nil]); (first | done | omega | (simp [*]; done)))) rfl rfl (by simp [Value.oneCell']) (by first | (with_reducible (repeat first | apply Pull.here | apply Pull.there); done) | (repeat first | apply Pull.here | apply Pull.there)) (by ((try simp only [List.size_toArray, List.length_set, List.length_map, List.length_append, List.length_replicate, List.length_cons, List.length_nil]); (first | done | omega | (simp [*]; done)))) (writeM (by ((try simp only [List.length_set, List.length_map, List.length_append, List.length_replicate]); omega)))) ?_
    rintro _ _ rfl
    refine TL.val rfl rfl rfl (Y.assign rfl rfl) ?_
    refine TL.nil ?_
    refine TQ.next ?_
    refine TC.ret ?_
    refine TQ.then_ret ?_
    refine TQ.retE (resL rfl (Res.agg rfl ag47 (Cels.all (cs := #[v32 0, v16 0]) (by with_reducible (repeat first | apply In.here | apply In.there))) (by rfl) (Res.tmp rfl Res.nil))) (⟨rfl, rfl⟩) ?_
    exact (by (repeat first | (with_reducible apply Ent.refl) | (with_reducible apply Ent.nil) | refine Ent.cons (by first | (with_reducible (repeat first | apply Pull.here | apply Pull.there); done) | (repeat first | apply Pull.here | apply Pull.there)) ?_ | refine Ent.skip ?_))
  · try simp only [decide_eq_true_eq, decide_eq_false_iff_not, Bool.not_eq_true', Bool.not_eq_false', Nat.not_lt, Nat.not_le, beq_iff_eq, bne_iff_ne] at g3_2
    try have hq' := hq g3_2
    refine TL.valG rfl rfl rfl (Y.move rfl rfl) ?_
    refine TL.effG rfl rfl rfl (X.call rfl Try.func43 (by kernel_rfl) rfl rfl (Fn.preE (by repeat first | (with_reducible apply Ent.refl) | (apply Ent.cons; case h => first | (with_reducible (repeat first | apply Pull.here | apply Pull.there); done) | (repeat first | apply Pull.here | apply Pull.there))) (rd.Left_fn _ _ _ _))) ?_
    rintro _ _ ⟨rfl, rfl⟩
    refine TL.valG rfl rfl rfl (Y.bin rfl rfl rfl (br_gtN (n := 0))) ?_
    refine TL.is true (by first | rfl | (simp only [decide_eq_true_eq, decide_eq_false_iff_not, Bool.not_eq_true', Bool.not_eq_false', Bool.not_eq_eq_eq_not, Bool.not_true, Bool.not_false, Nat.not_lt, Nat.not_le]; omega) | (simp [*]; done) | (simp; omega)) ?_
    refine TL.val rfl rfl rfl (Y.pick_f rfl rfl rfl) ?_
    refine TL.val rfl rfl rfl (Y.move rfl rfl) ?_
    refine TL.not rfl rfl rfl ?_
    refine TL.not rfl rfl rfl ?_
    refine TL.val rfl rfl rfl (Y.pick_t rfl rfl rfl) ?_
    refine TL.nil ?_
    refine TQ.next ?_
    refine TC.cond_t rfl ?_
    refine TC.seq ?_
    refine TC.region ?_
    refine TL.val rfl rfl rfl (Y.buildS rfl rfl pl47 zc47 rfl) ?_
    refine TL.as (.agg #[v32 0, v16 0]) (by rfl) ?_
    refine TL.eff0 rfl rfl (by first | exact X.storeAll rfl sz47 (by rfl) rfl rfl (allOne (by rfl)) (by first | (with_reducible (repeat first | apply Pull.here | apply Pull.there); done) | (repeat first | apply Pull.here | apply Pull.there)) (by rfl) | exact X.storeAll rfl sz47 (by ((try simp only [List.size_toArray, List.length_set, List.length_map, List.length_append, List.length_replicate, List.length_cons, List.length_nil]); (first | done | omega | (simp [*]; done)))) rfl rfl (by simp [Value.oneCell']) (by first | (with_reducible (repeat first | apply Pull.here | apply Pull.there); done) | (repeat first | apply Pull.here | apply Pull.there)) (by ((try simp only [List.size_toArray, List.length_set, List.length_map, List.length_append, List.length_replicate, List.length_cons, List.length_nil]); (first | done | omega | (simp [*]; done)))) | exact X.storeAgg rfl sz47 (by ((try simp only [List.size_toArray, List.length_set, List.length_map, List.length_append, List.length_replicate, List.length_cons, List.length_nil]); (first | done | omega | (simp [*]; done)))) rfl rfl (by simp [Value.oneCell']) (by first | (with_reducible (repeat first | apply Pull.here | apply Pull.there); done) | (repeat first | apply Pull.here | apply Pull.there)) (by ((try simp only [List.size_toArray, List.length_set, List.length_map, List.length_append, List.length_replicate, List.length_cons, List.length_nil]); (first | done | omega | (simp [*]; done)))) (writeM (by ((try simp only [List.length_set, List.length_map, List.length_append, List.length_replicate]); omega)))) ?_
    rintro _ _ rfl
    refine TL.val rfl rfl rfl (Y.assign rfl rfl) ?_
    refine TL.nil ?_
    refine TQ.next ?_
    refine TC.ret ?_
    refine TQ.then_ret ?_
    refine TQ.retE (resL rfl (Res.agg rfl ag47 (Cels.all (cs := #[v32 0, v16 0]) (by with_reducible (repeat first | apply In.here | apply In.there))) (by rfl) (Res.tmp rfl Res.nil))) (⟨rfl, rfl⟩) ?_
    exact (by (repeat first | (with_reducible apply Ent.refl) | (with_reducible apply Ent.nil) | refine Ent.cons (by first | (with_reducible (repeat first | apply Pull.here | apply Pull.there); done) | (repeat first | apply Pull.here | apply Pull.there)) ?_ | refine Ent.skip ?_))
theorem ReadMapped_81 (e2 e3 e4 e5 e6 e7 : UInt8) (a : Option Addr) (n cap : Nat) (b : List UInt8) (hb : b = [0, 1, e2, e3, e4, e5, e6, e7]) (hn : b.length = n) (L : List SA) :
    Fn Try.prog 19 [.slice a n cap] (SA.rds 1 (.slice a n cap) n (b.map v8) :: L)
      (fun v L' => v = .tuple #[.agg #[v32 (num [e4, e5, e6, e7] ^^^ 554869826), v16 ((num [e2, e3]).toUInt16 ^^^ 8466)], vN 0] ∧ L' = SA.rds 1 (.slice a n cap) n (b.map v8) :: L) := by
  have hn8 : n = 8 := by rw [← hn, hb]; rfl
  refine Fn.of (N := 33) Try.func19 rfl rfl ?_
  intro Xh
  refine TC.seq ?_
  refine TC.region ?_
  refine TL.eff rfl rfl rfl (X.alloc rfl zc47) ?_
  rintro _ _ ⟨b2, rfl, rfl⟩
  refine TL.val rfl rfl rfl (Y.assign rfl rfl) ?_
  refine TL.nil ?_
  refine TQ.next ?_
  refine TC.seq ?_
  refine TC.region ?_
  refine TL.val rfl rfl rfl (Y.move rfl rfl) ?_
  refine TL.eff rfl rfl rfl (X.call rfl Try.func38 (by kernel_rfl) rfl rfl (Fn.preE (by repeat first | (with_reducible apply Ent.refl) | (apply Ent.cons; case h => first | (with_reducible (repeat first | apply Pull.here | apply Pull.there); done) | (repeat first | apply Pull.here | apply Pull.there))) (rd.New_fn _ _ _ _ (by first | assumption | rfl) (by omega) _))) ?_
  rintro _ _ ⟨p9, rfl, rfl⟩
  refine TL.val rfl rfl rfl (Y.assign rfl rfl) ?_
  refine TL.nil ?_
  refine TQ.next ?_
  refine TC.seq ?_
  refine TC.region ?_
  refine TL.val rfl rfl rfl (Y.move rfl rfl) ?_
  refine TL.eff rfl rfl rfl (X.call rfl Try.func39 (by kernel_rfl) rfl rfl (Fn.preE (by repeat first | (with_reducible apply Ent.refl) | (apply Ent.cons; case h => first | (with_reducible (repeat first | apply Pull.here | apply Pull.there); done) | (repeat first | apply Pull.here | apply Pull.there))) (rd.U16_fn _ _ _ _))) ?_
  rintro _ _ ⟨rfl, rfl⟩
  rw [show rdV 2 b false = [0, 1] by rw [hb]; rfl, show rdL 2 b false = [e2, e3, e4, e5, e6, e7] by rw [hb]; rfl, show rdB 2 b false = false by rw [hb]; rfl]
  refine TL.val rfl rfl rfl (Y.move rfl rfl) ?_
  refine TL.eff rfl rfl rfl (X.call rfl Try.func39 (by kernel_rfl) rfl rfl (Fn.preE (by repeat first | (with_reducible apply Ent.refl) | (apply Ent.cons; case h => first | (with_reducible (repeat first | apply Pull.here | apply Pull.there); done) | (repeat first | apply Pull.here | apply Pull.there))) (rd.U16_fn _ _ _ _))) ?_
  rintro _ _ ⟨rfl, rfl⟩
  rw [show rdV 2 [e2, e3, e4, e5, e6, e7] false = [e2, e3] from rfl, show rdL 2 [e2, e3, e4, e5, e6, e7] false = [e4, e5, e6, e7] from rfl, show rdB 2 [e2, e3, e4, e5, e6, e7] false = false from rfl]
  refine TL.val rfl rfl rfl (Y.move rfl rfl) ?_
  refine TL.eff rfl rfl rfl (X.call rfl Try.func40 (by kernel_rfl) rfl rfl (Fn.preE (by repeat first | (with_reducible apply Ent.refl) | (apply Ent.cons; case h => first | (with_reducible (repeat first | apply Pull.here | apply Pull.there); done) | (repeat first | apply Pull.here | apply Pull.there))) (rd.U32_fn _ _ _ _))) ?_
  rintro _ _ ⟨rfl, rfl⟩
  rw [show rdV 4 [e4, e5, e6, e7] false = [e4, e5, e6, e7] from rfl, show rdL 4 [e4, e5, e6, e7] false = [] from rfl, show rdB 4 [e4, e5, e6, e7] false = false from rfl]
  refine TL.val rfl rfl rfl (Y.assign rfl rfl) ?_
  refine TL.val rfl rfl rfl (Y.assign rfl rfl) ?_
  refine TL.val rfl rfl rfl (Y.assign rfl rfl) ?_
  refine TL.nil ?_
  refine TQ.next ?_
  refine TC.seq ?_
  refine TC.seq ?_
  refine TC.region ?_
  refine TL.val rfl rfl rfl (Y.move rfl rfl) ?_
  refine TL.eff rfl rfl rfl (X.call rfl Try.func42 (by kernel_rfl) rfl rfl (Fn.preE (by repeat first | (with_reducible apply Ent.refl) | (apply Ent.cons; case h => first | (with_reducible (repeat first | apply Pull.here | apply Pull.there); done) | (repeat first | apply Pull.here | apply Pull.there))) (rd.Bad_fn _ _ _ _))) ?_
  rintro _ _ ⟨rfl, rfl⟩
  refine TL.val rfl rfl rfl (Y.move rfl rfl) ?_
  refine TL.valG rfl rfl rfl (Y.move rfl rfl) ?_
  refine TL.effG rfl rfl rfl (X.call rfl Try.func43 (by kernel_rfl) rfl rfl (Fn.preE (by repeat first | (with_reducible apply Ent.refl) | (apply Ent.cons; case h => first | (with_reducible (repeat first | apply Pull.here | apply Pull.there); done) | (repeat first | apply Pull.here | apply Pull.there))) (rd.Left_fn _ _ _ _))) ?_
  rintro _ _ ⟨rfl, rfl⟩
  refine TL.valG rfl rfl rfl (Y.bin rfl rfl rfl (br_gtN (n := 0))) ?_
  refine TL.is false (by first | rfl | (simp only [decide_eq_true_eq, decide_eq_false_iff_not, Bool.not_eq_true', Bool.not_eq_false', Bool.not_eq_eq_eq_not, Bool.not_true, Bool.not_false, Nat.not_lt, Nat.not_le]; omega) | (simp [*]; done) | (simp; omega)) ?_
  refine TL.val rfl rfl rfl (Y.pick_f rfl rfl rfl) ?_
  refine TL.val rfl rfl rfl (Y.move rfl rfl) ?_
  refine TL.valG rfl rfl rfl (Y.move rfl rfl) ?_
  refine TL.valG rfl rfl rfl (Y.bin rfl rfl rfl (br_ne16 (y := 1))) ?_
  refine TL.is false (by first | rfl | (simp only [decide_eq_true_eq, decide_eq_false_iff_not, Bool.not_eq_true', Bool.not_eq_false', Bool.not_eq_eq_eq_not, Bool.not_true, Bool.not_false, Nat.not_lt, Nat.not_le]; omega) | (simp [*]; done) | (simp; omega)) ?_
  refine TL.val rfl rfl rfl (Y.pick_f rfl rfl rfl) ?_
  refine TL.nil ?_
  refine TQ.next ?_
  refine TC.cond_f rfl ?_
  refine TC.skip ?_
  refine TQ.next ?_
  refine TC.seq ?_
  refine TC.region ?_
  refine TL.val rfl rfl rfl (Y.move rfl rfl) ?_
  refine TL.val rfl rfl rfl (Y.bin rfl rfl rfl (br_xor32 (y := 554869826))) ?_
  refine TL.val rfl rfl rfl (Y.move rfl rfl) ?_
  refine TL.val rfl rfl rfl (Y.bin rfl rfl rfl (br_xor16 (y := 8466))) ?_
  refine TL.val rfl rfl rfl (Y.buildS rfl rfl pl47 zc47 rfl) ?_
  refine TL.as (.agg #[v32 (num [e4, e5, e6, e7] ^^^ 554869826), v16 ((num [e2, e3]).toUInt16 ^^^ 8466)]) (by rfl) ?_
  refine TL.eff0 rfl rfl (by first | exact X.storeAll rfl sz47 (by rfl) rfl rfl (allOne (by rfl)) (by first | (with_reducible (repeat first | apply Pull.here | apply Pull.there); done) | (repeat first | apply Pull.here | apply Pull.there)) (by rfl) | exact X.storeAll rfl sz47 (by ((try simp only [List.size_toArray, List.length_set, List.length_map, List.length_append, List.length_replicate, List.length_cons, List.length_nil]); (first | done | omega | (simp [*]; done)))) rfl rfl (by simp [Value.oneCell']) (by first | (with_reducible (repeat first | apply Pull.here | apply Pull.there); done) | (repeat first | apply Pull.here | apply Pull.there)) (by ((try simp only [List.size_toArray, List.length_set, List.length_map, List.length_append, List.length_replicate, List.length_cons, List.length_nil]); (first | done | omega | (simp [*]; done)))) | exact X.storeAgg rfl sz47 (by ((try simp only [List.size_toArray, List.length_set, List.length_map, List.length_append, List.length_replicate, List.length_cons, List.length_nil]); (first | done | omega | (simp [*]; done)))) rfl rfl (by simp [Value.oneCell']) (by first | (with_reducible (repeat first | apply Pull.here | apply Pull.there); done) | (repeat first | apply Pull.here | apply Pull.there)) (by ((try simp only [List.size_toArray, List.length_set, List.length_map, List.length_append, List.length_replicate, List.length_cons, List.length_nil]); (first | done | omega | (simp [*]; done)))) (writeM (by ((try simp only [List.length_set, List.length_map, List.length_append, List.length_replicate]); omega)))) ?_
  rintro _ _ rfl
  refine TL.val rfl rfl rfl (Y.assign rfl rfl) ?_
  refine TL.nil ?_
  refine TQ.next ?_
  refine TC.ret ?_
  refine TQ.retE (resL rfl (Res.agg rfl ag47 (Cels.all (cs := #[v32 (num [e4, e5, e6, e7] ^^^ 554869826), v16 ((num [e2, e3]).toUInt16 ^^^ 8466)]) (by with_reducible (repeat first | apply In.here | apply In.there))) (by rfl) (Res.tmp rfl Res.nil))) (⟨rfl, rfl⟩) ?_
  exact (by (repeat first | (with_reducible apply Ent.refl) | (with_reducible apply Ent.nil) | refine Ent.cons (by first | (with_reducible (repeat first | apply Pull.here | apply Pull.there); done) | (repeat first | apply Pull.here | apply Pull.there)) ?_ | refine Ent.skip ?_))
theorem ReadMapped_80 (e0 e1 e2 e3 e4 e5 e6 e7 : UInt8) (a : Option Addr) (n cap : Nat) (b : List UInt8) (hb : b = [e0, e1, e2, e3, e4, e5, e6, e7]) (hn : b.length = n) (hne : (num [e0, e1]).toUInt16 ≠ 1) (L : List SA) :
    Fn Try.prog 19 [.slice a n cap] (SA.rds 1 (.slice a n cap) n (b.map v8) :: L)
      (fun v L' => v = .tuple #[.agg #[v32 0, v16 0], vN 2] ∧ L' = SA.rds 1 (.slice a n cap) n (b.map v8) :: L) := by
  have hn8 : n = 8 := by rw [← hn, hb]; rfl
  refine Fn.of (N := 33) Try.func19 rfl rfl ?_
  intro Xh
  refine TC.seq ?_
  refine TC.region ?_
  refine TL.eff rfl rfl rfl (X.alloc rfl zc47) ?_
  rintro _ _ ⟨b2, rfl, rfl⟩
  refine TL.val rfl rfl rfl (Y.assign rfl rfl) ?_
  refine TL.nil ?_
  refine TQ.next ?_
  refine TC.seq ?_
  refine TC.region ?_
  refine TL.val rfl rfl rfl (Y.move rfl rfl) ?_
  refine TL.eff rfl rfl rfl (X.call rfl Try.func38 (by kernel_rfl) rfl rfl (Fn.preE (by repeat first | (with_reducible apply Ent.refl) | (apply Ent.cons; case h => first | (with_reducible (repeat first | apply Pull.here | apply Pull.there); done) | (repeat first | apply Pull.here | apply Pull.there))) (rd.New_fn _ _ _ _ (by first | assumption | rfl) (by omega) _))) ?_
  rintro _ _ ⟨p9, rfl, rfl⟩
  refine TL.val rfl rfl rfl (Y.assign rfl rfl) ?_
  refine TL.nil ?_
  refine TQ.next ?_
  refine TC.seq ?_
  refine TC.region ?_
  refine TL.val rfl rfl rfl (Y.move rfl rfl) ?_
  refine TL.eff rfl rfl rfl (X.call rfl Try.func39 (by kernel_rfl) rfl rfl (Fn.preE (by repeat first | (with_reducible apply Ent.refl) | (apply Ent.cons; case h => first | (with_reducible (repeat first | apply Pull.here | apply Pull.there); done) | (repeat first | apply Pull.here | apply Pull.there))) (rd.U16_fn _ _ _ _))) ?_
  rintro _ _ ⟨rfl, rfl⟩
  rw [show rdV 2 b false = [e0, e1] by rw [hb]; rfl, show rdL 2 b false = [e2, e3, e4, e5, e6, e7] by rw [hb]; rfl, show rdB 2 b false = false by rw [hb]; rfl]
  refine TL.val rfl rfl rfl (Y.move rfl rfl) ?_
  refine TL.eff rfl rfl rfl (X.call rfl Try.func39 (by kernel_rfl) rfl rfl (Fn.preE (by repeat first | (with_reducible apply Ent.refl) | (apply Ent.cons; case h => first | (with_reducible (repeat first | apply Pull.here | apply Pull.there); done) | (repeat first | apply Pull.here | apply Pull.there))) (rd.U16_fn _ _ _ _))) ?_
  rintro _ _ ⟨rfl, rfl⟩
  rw [show rdV 2 [e2, e3, e4, e5, e6, e7] false = [e2, e3] from rfl, show rdL 2 [e2, e3, e4, e5, e6, e7] false = [e4, e5, e6, e7] from rfl, show rdB 2 [e2, e3, e4, e5, e6, e7] false = false from rfl]
  refine TL.val rfl rfl rfl (Y.move rfl rfl) ?_
  refine TL.eff rfl rfl rfl (X.call rfl Try.func40 (by kernel_rfl) rfl rfl (Fn.preE (by repeat first | (with_reducible apply Ent.refl) | (apply Ent.cons; case h => first | (with_reducible (repeat first | apply Pull.here | apply Pull.there); done) | (repeat first | apply Pull.here | apply Pull.there))) (rd.U32_fn _ _ _ _))) ?_
  rintro _ _ ⟨rfl, rfl⟩
  rw [show rdV 4 [e4, e5, e6, e7] false = [e4, e5, e6, e7] from rfl, show rdL 4 [e4, e5, e6, e7] false = [] from rfl, show rdB 4 [e4, e5, e6, e7] false = false from rfl]
  refine TL.val rfl rfl rfl (Y.assign rfl rfl) ?_
  refine TL.val rfl rfl rfl (Y.assign rfl rfl) ?_
  refine TL.val rfl rfl rfl (Y.assign rfl rfl) ?_
  refine TL.nil ?_
  refine TQ.next ?_
  refine TC.seq ?_
  refine TC.seq ?_
  refine TC.region ?_
  refine TL.val rfl rfl rfl (Y.move rfl rfl) ?_
  refine TL.eff rfl rfl rfl (X.call rfl Try.func42 (by kernel_rfl) rfl rfl (Fn.preE (by repeat first | (with_reducible apply Ent.refl) | (apply Ent.cons; case h => first | (with_reducible (repeat first | apply Pull.here | apply Pull.there); done) | (repeat first | apply Pull.here | apply Pull.there))) (rd.Bad_fn _ _ _ _))) ?_
  rintro _ _ ⟨rfl, rfl⟩
  refine TL.val rfl rfl rfl (Y.move rfl rfl) ?_
  refine TL.valG rfl rfl rfl (Y.move rfl rfl) ?_
  refine TL.effG rfl rfl rfl (X.call rfl Try.func43 (by kernel_rfl) rfl rfl (Fn.preE (by repeat first | (with_reducible apply Ent.refl) | (apply Ent.cons; case h => first | (with_reducible (repeat first | apply Pull.here | apply Pull.there); done) | (repeat first | apply Pull.here | apply Pull.there))) (rd.Left_fn _ _ _ _))) ?_
  rintro _ _ ⟨rfl, rfl⟩
  refine TL.valG rfl rfl rfl (Y.bin rfl rfl rfl (br_gtN (n := 0))) ?_
  refine TL.is false (by first | rfl | (simp only [decide_eq_true_eq, decide_eq_false_iff_not, Bool.not_eq_true', Bool.not_eq_false', Bool.not_eq_eq_eq_not, Bool.not_true, Bool.not_false, Nat.not_lt, Nat.not_le]; omega) | (simp [*]; done) | (simp; omega)) ?_
  refine TL.val rfl rfl rfl (Y.pick_f rfl rfl rfl) ?_
  refine TL.val rfl rfl rfl (Y.move rfl rfl) ?_
  refine TL.valG rfl rfl rfl (Y.move rfl rfl) ?_
  refine TL.valG rfl rfl rfl (Y.bin rfl rfl rfl (br_ne16 (y := 1))) ?_
  refine TL.is true (by first | rfl | (simp only [decide_eq_true_eq, decide_eq_false_iff_not, Bool.not_eq_true', Bool.not_eq_false', Bool.not_eq_eq_eq_not, Bool.not_true, Bool.not_false, Nat.not_lt, Nat.not_le]; omega) | (simp [*]; done) | (simp; omega)) ?_
  refine TL.val rfl rfl rfl (Y.pick_f rfl rfl rfl) ?_
  refine TL.nil ?_
  refine TQ.next ?_
  refine TC.cond_t rfl ?_
  refine TC.seq ?_
  refine TC.region ?_
  refine TL.val rfl rfl rfl (Y.buildS rfl rfl pl47 zc47 rfl) ?_
  refine TL.as (.agg #[v32 0, v16 0]) (by rfl) ?_
  refine TL.eff0 rfl rfl (by first | exact X.storeAll rfl sz47 (by rfl) rfl rfl (allOne (by rfl)) (by first | (with_reducible (repeat first | apply Pull.here | apply Pull.there); done) | (repeat first | apply Pull.here | apply Pull.there)) (by rfl) | exact X.storeAll rfl sz47 (by ((try simp only [List.size_toArray, List.length_set, List.length_map, List.length_append, List.length_replicate, List.length_cons, List.length_nil]); (first | done | omega | (simp [*]; done)))) rfl rfl (by simp [Value.oneCell']) (by first | (with_reducible (repeat first | apply Pull.here | apply Pull.there); done) | (repeat first | apply Pull.here | apply Pull.there)) (by ((try simp only [List.size_toArray, List.length_set, List.length_map, List.length_append, List.length_replicate, List.length_cons, List.length_nil]); (first | done | omega | (simp [*]; done)))) | exact X.storeAgg rfl sz47 (by ((try simp only [List.size_toArray, List.length_set, List.length_map, List.length_append, List.length_replicate, List.length_cons, List.length_nil]); (first | done | omega | (simp [*]; done)))) rfl rfl (by simp [Value.oneCell']) (by first | (with_reducible (repeat first | apply Pull.here | apply Pull.there); done) | (repeat first | apply Pull.here | apply Pull.there)) (by ((try simp only [List.size_toArray, List.length_set, List.length_map, List.length_append, List.length_replicate, List.length_cons, List.length_nil]); (first | done | omega | (simp [*]; done)))) (writeM (by ((try simp only [List.length_set, List.length_map, List.length_append, List.length_replicate]); omega)))) ?_
  rintro _ _ rfl
  refine TL.val rfl rfl rfl (Y.assign rfl rfl) ?_
  refine TL.nil ?_
  refine TQ.next ?_
  refine TC.ret ?_
  refine TQ.then_ret ?_
  refine TQ.retE (resL rfl (Res.agg rfl ag47 (Cels.all (cs := #[v32 0, v16 0]) (by with_reducible (repeat first | apply In.here | apply In.there))) (by rfl) (Res.tmp rfl Res.nil))) (⟨rfl, rfl⟩) ?_
  exact (by (repeat first | (with_reducible apply Ent.refl) | (with_reducible apply Ent.nil) | refine Ent.cons (by first | (with_reducible (repeat first | apply Pull.here | apply Pull.there); done) | (repeat first | apply Pull.here | apply Pull.there)) ?_ | refine Ent.skip ?_))
theorem ReadMapped_8 (e0 e1 e2 e3 e4 e5 e6 e7 : UInt8) (a : Option Addr) (n cap : Nat) (b : List UInt8) (hb : b = [e0, e1, e2, e3, e4, e5, e6, e7]) (hn : b.length = n) (L : List SA) :
    Fn Try.prog 19 [.slice a n cap] (SA.rds 1 (.slice a n cap) n (b.map v8) :: L)
      (fun v L' => v = .tuple #[.agg #[v32 (ma (mapR b)).1, v16 (ma (mapR b)).2], vN (me (mapR b))] ∧ L' = SA.rds 1 (.slice a n cap) n (b.map v8) :: L) := by
  by_cases hf : e0 = 0 ∧ e1 = 1
  · have hm : mapR b = some (num [e4, e5, e6, e7] ^^^ 554869826, (num [e2, e3]).toUInt16 ^^^ 8466) := by rw [hb]; exact if_pos hf
    rw [hm]
    obtain ⟨rfl, rfl⟩ := hf
    exact ReadMapped_81 e2 e3 e4 e5 e6 e7 a n cap b hb hn L
  · have hm : mapR b = none := by rw [hb]; exact if_neg hf
    rw [hm]
    refine ReadMapped_80 e0 e1 e2 e3 e4 e5 e6 e7 a n cap b hb hn (fun h => ?_) L
    have e := num2 e0 e1
    rw [h] at e
    have h0 := e0.toNat_lt; have h1 := e1.toNat_lt
    have e' : (1 : UInt16).toNat = 1 := rfl
    rw [e'] at e
    exact hf ⟨UInt8.toNat_inj.1 (by show _ = 0; omega), UInt8.toNat_inj.1 (by show _ = 1; omega)⟩
theorem eight8 {b : List UInt8} (h : b.length = 8) : ∃ b0 b1 b2 b3 b4 b5 b6 b7, b = [b0, b1, b2, b3, b4, b5, b6, b7] := eight h
--REG rostrum/stun.ReadMapped : _ _ ⟨rfl, rfl⟩ => (stun.ReadMapped_fn _ _ _ _ (by first | assumption | rfl) (by omega) _)
theorem ReadMapped_fn (a : Option Addr) (n cap : Nat) (b : List UInt8) (hn : b.length = n) (hr : n ≤ 140737488351232) (L : List SA) :
    Fn Try.prog 19 [.slice a n cap] (SA.rds 1 (.slice a n cap) n (b.map v8) :: L)
      (fun v L' => v = .tuple #[.agg #[v32 (ma (mapR b)).1, v16 (ma (mapR b)).2], vN (me (mapR b))] ∧ L' = SA.rds 1 (.slice a n cap) n (b.map v8) :: L) := by
  by_cases h8 : b.length = 8
  · obtain ⟨b0, b1, b2, b3, b4, b5, b6, b7, hb⟩ := eight8 h8
    exact ReadMapped_8 b0 b1 b2 b3 b4 b5 b6 b7 a n cap b hb hn L
  · rw [mapR_len h8]
    exact ReadMapped_len a n cap b hn hr h8 L
theorem refReadMapped_len (a : Option Addr) (n cap : Nat) (b : List UInt8) (hn : b.length = n) (h8 : b.length ≠ 8) (L : List SA) :
    Fn Try.prog 20 [.slice a n cap] (SA.rds 1 (.slice a n cap) n (b.map v8) :: L) (fun v L' => v = .tuple #[.agg #[v32 0, v16 0], vN 2] ∧ L' = SA.rds 1 (.slice a n cap) n (b.map v8) :: L) := by
  refine Fn.of (N := 31) Try.func20 rfl rfl ?_
  intro Xh
  refine TC.seq ?_
  refine TC.region ?_
  refine TL.eff rfl rfl rfl (X.alloc rfl zc47) ?_
  rintro _ _ ⟨b2, rfl, rfl⟩
  refine TL.val rfl rfl rfl (Y.assign rfl rfl) ?_
  refine TL.nil ?_
  refine TQ.next ?_
  refine TC.seq ?_
  refine TC.seq ?_
  refine TC.region ?_
  refine TL.val rfl rfl rfl (Y.move rfl rfl) ?_
  refine TL.val rfl rfl rfl (Y.len rfl Try.underlying27 rfl) ?_
  refine TL.val rfl rfl rfl (Y.bin rfl rfl rfl (br_neN (n := 8))) ?_
  refine TL.is true (by first | rfl | (simp only [decide_eq_true_eq, decide_eq_false_iff_not, Bool.not_eq_true', Bool.not_eq_false', Bool.not_eq_eq_eq_not, Bool.not_true, Bool.not_false, Nat.not_lt, Nat.not_le]; omega) | (simp [*]; done) | (simp; omega)) ?_
  refine TL.val rfl rfl rfl (Y.move rfl rfl) ?_
  refine TL.not rfl rfl rfl ?_
  refine TL.not rfl rfl rfl ?_
  refine TL.not rfl rfl rfl ?_
  refine TL.not rfl rfl rfl ?_
  refine TL.val rfl rfl rfl (Y.pick_t rfl rfl rfl) ?_
  refine TL.val rfl rfl rfl (Y.move rfl rfl) ?_
  refine TL.not rfl rfl rfl ?_
  refine TL.not rfl rfl rfl ?_
  refine TL.not rfl rfl rfl ?_
  refine TL.not rfl rfl rfl ?_
  refine TL.val rfl rfl rfl (Y.pick_t rfl rfl rfl) ?_
  refine TL.nil ?_
  refine TQ.next ?_
  refine TC.cond_t rfl ?_
  refine TC.seq ?_
  refine TC.region ?_
  refine TL.val rfl rfl rfl (Y.buildS rfl rfl pl47 zc47 rfl) ?_
  refine TL.as (.agg #[v32 0, v16 0]) (by rfl) ?_
  refine TL.eff0 rfl rfl (by first | exact X.storeAll rfl sz47 (by rfl) rfl rfl (allOne (by rfl)) (by first | (with_reducible (repeat first | apply Pull.here | apply Pull.there); done) | (repeat first | apply Pull.here | apply Pull.there)) (by rfl) | exact X.storeAll rfl sz47 (by ((try simp only [List.size_toArray, List.length_set, List.length_map, List.length_append, List.length_replicate, List.length_cons, List.length_nil]); (first | done | omega | (simp [*]; done)))) rfl rfl (by simp [Value.oneCell']) (by first | (with_reducible (repeat first | apply Pull.here | apply Pull.there); done) | (repeat first | apply Pull.here | apply Pull.there)) (by ((try simp only [List.size_toArray, List.length_set, List.length_map, List.length_append, List.length_replicate, List.length_cons, List.length_nil]); (first | done | omega | (simp [*]; done)))) | exact X.storeAgg rfl sz47 (by ((try simp only [List.size_toArray, List.length_set, List.length_map, List.length_append, List.length_replicate, List.length_cons, List.length_nil]); (first | done | omega | (simp [*]; done)))) rfl rfl (by simp [Value.oneCell']) (by first | (with_reducible (repeat first | apply Pull.here | apply Pull.there); done) | (repeat first | apply Pull.here | apply Pull.there)) (by ((try simp only [List.size_toArray, List.length_set, List.length_map, List.length_append, List.length_replicate, List.length_cons, List.length_nil]); (first | done | omega | (simp [*]; done)))) (writeM (by ((try simp only [List.length_set, List.length_map, List.length_append, List.length_replicate]); omega)))) ?_
  rintro _ _ rfl
  refine TL.val rfl rfl rfl (Y.assign rfl rfl) ?_
  refine TL.nil ?_
  refine TQ.next ?_
  refine TC.ret ?_
  refine TQ.then_ret ?_
  refine TQ.retE (resL rfl (Res.agg rfl ag47 (Cels.all (cs := #[v32 0, v16 0]) (by with_reducible (repeat first | apply In.here | apply In.there))) (by rfl) (Res.tmp rfl Res.nil))) (⟨rfl, rfl⟩) ?_
  exact (by (repeat first | (with_reducible apply Ent.refl) | (with_reducible apply Ent.nil) | refine Ent.cons (by first | (with_reducible (repeat first | apply Pull.here | apply Pull.there); done) | (repeat first | apply Pull.here | apply Pull.there)) ?_ | refine Ent.skip ?_))
set_option maxHeartbeats 1000000 in
theorem refReadMapped_8 (e0 e1 e2 e3 e4 e5 e6 e7 : UInt8) (a : Option Addr) (cap : Nat) (L : List SA) :
    Fn Try.prog 20 [.slice a 8 cap] (SA.rds 1 (.slice a 8 cap) 8 ([e0, e1, e2, e3, e4, e5, e6, e7].map v8) :: L)
      (fun v L' => v = .tuple #[.agg #[v32 (ma (mapR [e0, e1, e2, e3, e4, e5, e6, e7])).1, v16 (ma (mapR [e0, e1, e2, e3, e4, e5, e6, e7])).2], vN (me (mapR [e0, e1, e2, e3, e4, e5, e6, e7]))] ∧ L' = SA.rds 1 (.slice a 8 cap) 8 ([e0, e1, e2, e3, e4, e5, e6, e7].map v8) :: L) := by
  refine Fn.of (N := 31) Try.func20 rfl rfl ?_
  intro Xh
  refine TC.know (reads_cap Reads.rds (a := a) (n := 8) (cap := cap) (cs := [e0, e1, e2, e3, e4, e5, e6, e7].map v8) (by with_reducible (repeat first | apply In.here | apply In.there))) ?_
  rintro ⟨hc1, hc2, -, -⟩
  simp only [maxLen] at hc2
  refine TC.know (reads_some Reads.rds (a := a) (n := 8) (cap := cap) (cs := [e0, e1, e2, e3, e4, e5, e6, e7].map v8) (by with_reducible (repeat first | apply In.here | apply In.there)) (by omega) (by decide)) ?_
  rintro ⟨g, off, rfl⟩
  refine TC.seq ?_
  refine TC.region ?_
  refine TL.eff rfl rfl rfl (X.alloc rfl zc47) ?_
  rintro _ _ ⟨b2, rfl, rfl⟩
  refine TL.val rfl rfl rfl (Y.assign rfl rfl) ?_
  refine TL.nil ?_
  refine TQ.next ?_
  refine TC.seq ?_
  refine TC.seq ?_
  refine TC.region ?_
  refine TL.val rfl rfl rfl (Y.move rfl rfl) ?_
  refine TL.val rfl rfl rfl (Y.len rfl Try.underlying27 rfl) ?_
  refine TL.val rfl rfl rfl (Y.bin rfl rfl rfl (br_neN (n := 8))) ?_
  refine TL.is false (by first | rfl | (simp only [decide_eq_true_eq, decide_eq_false_iff_not, Bool.not_eq_true', Bool.not_eq_false', Bool.not_eq_eq_eq_not, Bool.not_true, Bool.not_false, Nat.not_lt, Nat.not_le]; omega) | (simp [*]; done) | (simp; omega)) ?_
  refine TL.val rfl rfl rfl (Y.move rfl rfl) ?_
  refine TL.valG rfl rfl rfl (Y.move rfl rfl) ?_
  refine TL.valG rfl rfl rfl (by first | exact Y.indexSlB (j := 0) rfl sl27 rfl rfl (by omega) (by ((try simp only [Nat.zero_add, Nat.add_zero, Nat.mul_one, Nat.one_mul, Nat.mul_zero, Nat.zero_mul]) <;> rfl)) | exact Y.indexSl (j := 0) rfl sl27 rfl rfl (by omega) (by ((try simp only [Nat.zero_add, Nat.add_zero, Nat.mul_one, Nat.one_mul, Nat.mul_zero, Nat.zero_mul]) <;> rfl))) ?_
  refine TL.valG rfl rfl rfl (Y.load rfl sc5 rfl (by first | exact Cel.datAt0 (by with_reducible (repeat first | apply In.here | apply In.there)) (by assumption) (by rfl) | exact Cel.datAt (by with_reducible (repeat first | apply In.here | apply In.there)) (by assumption) (by rfl) | exact Cel.datAtS (by with_reducible (repeat first | apply In.here | apply In.there)) (by assumption) (by rfl) | exact Cel.blk (by with_reducible (repeat first | apply In.here | apply In.there)) (by first | exact getM (d := (0 : UInt8)) (by ((try simp only [List.length_set, List.length_map, List.length_append, List.length_replicate, List.size_toArray, List.length_cons, List.length_nil, Array.size_setIfInBounds]); omega)) | rfl) | exact Cel.rblk (by with_reducible (repeat first | apply In.here | apply In.there)) (by first | exact getM (d := (0 : UInt8)) (by ((try simp only [List.length_set, List.length_map, List.length_append, List.length_replicate, List.size_toArray, List.length_cons, List.length_nil, Array.size_setIfInBounds]); omega)) | rfl) | exact Cel.rds (by with_reducible (repeat first | apply In.here | apply In.there)) (getML (d := (0 : UInt8)) (by ((try simp only [List.length_set, List.length_map, List.length_append, List.length_replicate, List.size_toArray, List.length_cons, List.length_nil, Array.size_setIfInBounds]); omega))) | exact Cel.rdsB (by with_reducible (repeat first | apply In.here | apply In.there)) (getML (d := (0 : UInt8)) (by ((try simp only [List.length_set, List.length_map, List.length_append, List.length_replicate, List.size_toArray, List.length_cons, List.length_nil, Array.size_setIfInBounds]); omega))) | exact Cel.owns (by with_reducible (repeat first | apply In.here | apply In.there)) (getML (d := (0 : UInt8)) (by ((try simp only [List.length_set, List.length_map, List.length_append, List.length_replicate, List.size_toArray, List.length_cons, List.length_nil, Array.size_setIfInBounds]); omega))) | exact Cel.reads (by assumption) (by with_reducible (repeat first | apply In.here | apply In.there)) (getML (d := (0 : UInt8)) (by ((try simp only [List.length_set, List.length_map, List.length_append, List.length_replicate, List.size_toArray, List.length_cons, List.length_nil, Array.size_setIfInBounds]); omega))) | exact Cel.rds0 (by with_reducible (repeat first | apply In.here | apply In.there)) (getML (d := (0 : UInt8)) (by ((try simp only [List.length_set, List.length_map, List.length_append, List.length_replicate, List.size_toArray, List.length_cons, List.length_nil, Array.size_setIfInBounds]); omega))) | exact Cel.owns0 (by with_reducible (repeat first | apply In.here | apply In.there)) (getML (d := (0 : UInt8)) (by ((try simp only [List.length_set, List.length_map, List.length_append, List.length_replicate, List.size_toArray, List.length_cons, List.length_nil, Array.size_setIfInBounds]); omega))))) ?_
  refine TL.as (v8 e0) (by rfl) ?_
  refine TL.valG rfl rfl rfl (Y.bin rfl rfl rfl (br_ne8 (y := 0))) ?_
  refine TL.val rfl rfl rfl (Y.pick_f rfl rfl rfl) ?_
  refine TL.val rfl rfl rfl (Y.move rfl rfl) ?_
  refine TL.case (fun g1_9 => ?_) (fun g1_9 => ?_)
  · try simp only [decide_eq_true_eq, decide_eq_false_iff_not, Bool.not_eq_true', Bool.not_eq_false', Nat.not_lt, Nat.not_le, beq_iff_eq, bne_iff_ne] at g1_9
    refine TL.not rfl rfl rfl ?_
    refine TL.not rfl rfl rfl ?_
    refine TL.not rfl rfl rfl ?_
    refine TL.not rfl rfl rfl ?_
    refine TL.val rfl rfl rfl (Y.pick_t rfl rfl rfl) ?_
    refine TL.nil ?_
    refine TQ.next ?_
    refine TC.cond_t rfl ?_
    refine TC.seq ?_
    have hm : mapR [e0, e1, e2, e3, e4, e5, e6, e7] = none := by
      refine if_neg fun h => ?_
      first
      | (have := g1_9; simp [h.1, h.2] at this; done)
      | (have := c0; simp [h.1, h.2] at this; done)
    rw [hm]
    refine TC.region ?_
    refine TL.val rfl rfl rfl (Y.buildS rfl rfl pl47 zc47 rfl) ?_
    refine TL.as (.agg #[v32 0, v16 0]) (by rfl) ?_
    refine TL.eff0 rfl rfl (by first | exact X.storeAll rfl sz47 (by rfl) rfl rfl (allOne (by rfl)) (by first | (with_reducible (repeat first | apply Pull.here | apply Pull.there); done) | (repeat first | apply Pull.here | apply Pull.there)) (by rfl) | exact X.storeAll rfl sz47 (by ((try simp only [List.size_toArray, List.length_set, List.length_map, List.length_append, List.length_replicate, List.length_cons, List.length_nil]); (first | done | omega | (simp [*]; done)))) rfl rfl (by simp [Value.oneCell']) (by first | (with_reducible (repeat first | apply Pull.here | apply Pull.there); done) | (repeat first | apply Pull.here | apply Pull.there)) (by ((try simp only [List.size_toArray, List.length_set, List.length_map, List.length_append, List.length_replicate, List.length_cons, List.length_nil]); (first | done | omega | (simp [*]; done)))) | exact X.storeAgg rfl sz47 (by ((try simp only [List.size_toArray, List.length_set, List.length_map, List.length_append, List.length_replicate, List.length_cons, List.length_nil]); (first | done | omega | (simp [*]; done)))) rfl rfl (by simp [Value.oneCell']) (by first | (with_reducible (repeat first | apply Pull.here | apply Pull.there); done) | (repeat first | apply Pull.here | apply Pull.there)) (by ((try simp only [List.size_toArray, List.length_set, List.length_map, List.length_append, List.length_replicate, List.length_cons, List.length_nil]); (first | done | omega | (simp [*]; done)))) (writeM (by ((try simp only [List.length_set, List.length_map, List.length_append, List.length_replicate]); omega)))) ?_
    rintro _ _ rfl
    refine TL.val rfl rfl rfl (Y.assign rfl rfl) ?_
    refine TL.nil ?_
    refine TQ.next ?_
    refine TC.ret ?_
    refine TQ.then_ret ?_
    refine TQ.retE (resL rfl (Res.agg rfl ag47 (by first | exact Cels.all (cs := #[v32 0, v16 0]) (by with_reducible (repeat first | apply In.here | apply In.there)) | exact Cels.all (cs := #[v32 (num [e4, e5, e6, e7] ^^^ 554869826), v16 ((num [e2, e3]).toUInt16 ^^^ 8466)]) (by with_reducible (repeat first | apply In.here | apply In.there))) (by rfl) (Res.tmp rfl Res.nil))) (⟨rfl, rfl⟩) ?_
    exact (by (repeat first | (with_reducible apply Ent.refl) | (with_reducible apply Ent.nil) | refine Ent.cons (by first | (with_reducible (repeat first | apply Pull.here | apply Pull.there); done) | (repeat first | apply Pull.here | apply Pull.there)) ?_ | refine Ent.skip ?_))
  · try simp only [decide_eq_true_eq, decide_eq_false_iff_not, Bool.not_eq_true', Bool.not_eq_false', Nat.not_lt, Nat.not_le, beq_iff_eq, bne_iff_ne] at g1_9
    refine TL.valG rfl rfl rfl (Y.move rfl rfl) ?_
    refine TL.valG rfl rfl rfl (by first | exact Y.indexSlB (j := 1) rfl sl27 rfl rfl (by omega) (by ((try simp only [Nat.zero_add, Nat.add_zero, Nat.mul_one, Nat.one_mul, Nat.mul_zero, Nat.zero_mul]) <;> rfl)) | exact Y.indexSl (j := 1) rfl sl27 rfl rfl (by omega) (by ((try simp only [Nat.zero_add, Nat.add_zero, Nat.mul_one, Nat.one_mul, Nat.mul_zero, Nat.zero_mul]) <;> rfl))) ?_
    refine TL.valG rfl rfl rfl (Y.load rfl sc5 rfl (by first | exact Cel.datAt0 (by with_reducible (repeat first | apply In.here | apply In.there)) (by assumption) (by rfl) | exact Cel.datAt (by with_reducible (repeat first | apply In.here | apply In.there)) (by assumption) (by rfl) | exact Cel.datAtS (by with_reducible (repeat first | apply In.here | apply In.there)) (by assumption) (by rfl) | exact Cel.blk (by with_reducible (repeat first | apply In.here | apply In.there)) (by first | exact getM (d := (0 : UInt8)) (by ((try simp only [List.length_set, List.length_map, List.length_append, List.length_replicate, List.size_toArray, List.length_cons, List.length_nil, Array.size_setIfInBounds]); omega)) | rfl) | exact Cel.rblk (by with_reducible (repeat first | apply In.here | apply In.there)) (by first | exact getM (d := (0 : UInt8)) (by ((try simp only [List.length_set, List.length_map, List.length_append, List.length_replicate, List.size_toArray, List.length_cons, List.length_nil, Array.size_setIfInBounds]); omega)) | rfl) | exact Cel.rds (by with_reducible (repeat first | apply In.here | apply In.there)) (getML (d := (0 : UInt8)) (by ((try simp only [List.length_set, List.length_map, List.length_append, List.length_replicate, List.size_toArray, List.length_cons, List.length_nil, Array.size_setIfInBounds]); omega))) | exact Cel.rdsB (by with_reducible (repeat first | apply In.here | apply In.there)) (getML (d := (0 : UInt8)) (by ((try simp only [List.length_set, List.length_map, List.length_append, List.length_replicate, List.size_toArray, List.length_cons, List.length_nil, Array.size_setIfInBounds]); omega))) | exact Cel.owns (by with_reducible (repeat first | apply In.here | apply In.there)) (getML (d := (0 : UInt8)) (by ((try simp only [List.length_set, List.length_map, List.length_append, List.length_replicate, List.size_toArray, List.length_cons, List.length_nil, Array.size_setIfInBounds]); omega))) | exact Cel.reads (by assumption) (by with_reducible (repeat first | apply In.here | apply In.there)) (getML (d := (0 : UInt8)) (by ((try simp only [List.length_set, List.length_map, List.length_append, List.length_replicate, List.size_toArray, List.length_cons, List.length_nil, Array.size_setIfInBounds]); omega))) | exact Cel.rds0 (by with_reducible (repeat first | apply In.here | apply In.there)) (getML (d := (0 : UInt8)) (by ((try simp only [List.length_set, List.length_map, List.length_append, List.length_replicate, List.size_toArray, List.length_cons, List.length_nil, Array.size_setIfInBounds]); omega))) | exact Cel.owns0 (by with_reducible (repeat first | apply In.here | apply In.there)) (getML (d := (0 : UInt8)) (by ((try simp only [List.length_set, List.length_map, List.length_append, List.length_replicate, List.size_toArray, List.length_cons, List.length_nil, Array.size_setIfInBounds]); omega))))) ?_
    refine TL.as (v8 e1) (by rfl) ?_
    refine TL.valG rfl rfl rfl (Y.bin rfl rfl rfl (br_ne8 (y := 1))) ?_
    refine TL.val rfl rfl rfl (Y.pick_f rfl rfl rfl) ?_
    refine TL.nil ?_
    refine TQ.next ?_
    refine TC.cond rfl (fun c0 => ?_) (fun c0 => ?_)
    · try simp only [decide_eq_true_eq, decide_eq_false_iff_not, Bool.not_eq_true', Bool.not_eq_false', Bool.and_eq_true, Bool.or_eq_true, Nat.not_lt, Nat.not_le, beq_iff_eq, bne_iff_ne] at c0
      refine TC.seq ?_
      have hm : mapR [e0, e1, e2, e3, e4, e5, e6, e7] = none := by
        refine if_neg fun h => ?_
        first
        | (have := g1_9; simp [h.1, h.2] at this; done)
        | (have := c0; simp [h.1, h.2] at this; done)
      rw [hm]
      refine TC.region ?_
      refine TL.val rfl rfl rfl (Y.buildS rfl rfl pl47 zc47 rfl) ?_
      refine TL.as (.agg #[v32 0, v16 0]) (by rfl) ?_
      refine TL.eff0 rfl rfl (by first | exact X.storeAll rfl sz47 (by rfl) rfl rfl (allOne (by rfl)) (by first | (with_reducible (repeat first | apply Pull.here | apply Pull.there); done) | (repeat first | apply Pull.here | apply Pull.there)) (by rfl) | exact X.storeAll rfl sz47 (by ((try simp only [List.size_toArray, List.length_set, List.length_map, List.length_append, List.length_replicate, List.length_cons, List.length_nil]); (first | done | omega | (simp [*]; done)))) rfl rfl (by simp [Value.oneCell']) (by first | (with_reducible (repeat first | apply Pull.here | apply Pull.there); done) | (repeat first | apply Pull.here | apply Pull.there)) (by ((try simp only [List.size_toArray, List.length_set, List.length_map, List.length_append, List.length_replicate, List.length_cons, List.length_nil]); (first | done | omega | (simp [*]; done)))) | exact X.storeAgg rfl sz47 (by ((try simp only [List.size_toArray, List.length_set, List.length_map, List.length_append, List.length_replicate, List.length_cons, List.length_nil]); (first | done | omega | (simp [*]; done)))) rfl rfl (by simp [Value.oneCell']) (by first | (with_reducible (repeat first | apply Pull.here | apply Pull.there); done) | (repeat first | apply Pull.here | apply Pull.there)) (by ((try simp only [List.size_toArray, List.length_set, List.length_map, List.length_append, List.length_replicate, List.length_cons, List.length_nil]); (first | done | omega | (simp [*]; done)))) (writeM (by ((try simp only [List.length_set, List.length_map, List.length_append, List.length_replicate]); omega)))) ?_
      rintro _ _ rfl
      refine TL.val rfl rfl rfl (Y.assign rfl rfl) ?_
      refine TL.nil ?_
      refine TQ.next ?_
      refine TC.ret ?_
      refine TQ.then_ret ?_
      refine TQ.retE (resL rfl (Res.agg rfl ag47 (by first | exact Cels.all (cs := #[v32 0, v16 0]) (by with_reducible (repeat first | apply In.here | apply In.there)) | exact Cels.all (cs := #[v32 (num [e4, e5, e6, e7] ^^^ 554869826), v16 ((num [e2, e3]).toUInt16 ^^^ 8466)]) (by with_reducible (repeat first | apply In.here | apply In.there))) (by rfl) (Res.tmp rfl Res.nil))) (⟨rfl, rfl⟩) ?_
      exact (by (repeat first | (with_reducible apply Ent.refl) | (with_reducible apply Ent.nil) | refine Ent.cons (by first | (with_reducible (repeat first | apply Pull.here | apply Pull.there); done) | (repeat first | apply Pull.here | apply Pull.there)) ?_ | refine Ent.skip ?_))
    · try simp only [decide_eq_true_eq, decide_eq_false_iff_not, Bool.not_eq_true', Bool.not_eq_false', Bool.and_eq_true, Bool.or_eq_true, Nat.not_lt, Nat.not_le, beq_iff_eq, bne_iff_ne] at c0
      refine TC.skip ?_
      refine TQ.next ?_
      refine TC.seq ?_
      have hm : mapR [e0, e1, e2, e3, e4, e5, e6, e7] = some (num [e4, e5, e6, e7] ^^^ 554869826, (num [e2, e3]).toUInt16 ^^^ 8466) := by
        refine if_pos ⟨?_, ?_⟩
        · simpa using g1_9
        · simpa using c0
      rw [hm]
      refine TC.to (Ent.trans (Pull.ent (A := SA.rds 1 (.slice (some ⟨g, off, none⟩) 8 cap) 8 ([e0, e1, e2, e3, e4, e5, e6, e7].map v8)) (by first | (with_reducible (repeat first | apply Pull.here | apply Pull.there); done) | (repeat first | apply Pull.here | apply Pull.there))) (Ent.cutRds2 (lo := 2) (hi := 4) (by omega) (by omega))) ?_
      refine TC.to (Ent.trans (Pull.ent (A := SA.rds 1 (.slice (some ⟨g, off, none⟩) 8 cap) 8 ([e0, e1, e2, e3, e4, e5, e6, e7].map v8)) (by first | (with_reducible (repeat first | apply Pull.here | apply Pull.there); done) | (repeat first | apply Pull.here | apply Pull.there))) (Ent.cutRds2 (lo := 4) (hi := 8) (by omega) (by omega))) ?_
      refine TC.draws 11 [] (by kernel_rfl) (by kernel_rfl) (by repeat first | exact holds_nil | refine holds_cons (by with_reducible (repeat first | apply In.here | apply In.there)) ?_) ?_
      refine TA.take 0 rfl rfl rfl rfl (by kernel_rfl) (by kernel_rfl) (by kernel_rfl) rfl (by kernel_rfl) (by kernel_rfl) (fun _ _ _ h => h) (Y.move rfl rfl) ?_
      refine TA.take 1 rfl rfl rfl rfl (by kernel_rfl) (by kernel_rfl) (by kernel_rfl) rfl (by kernel_rfl) (by kernel_rfl) (fun _ _ _ h => h) (Y.sliceLH (k := 2) (h := 4) rfl Try.underlying27 sz5 rfl rfl rfl (by omega) (by omega)) ?_
      refine TA.take 5 rfl rfl rfl rfl (by kernel_rfl) (by kernel_rfl) (by kernel_rfl) rfl (by kernel_rfl) (by kernel_rfl) (fun _ _ _ h => h) (Y.move rfl rfl) ?_
      refine TA.take 6 rfl rfl rfl rfl (by kernel_rfl) (by kernel_rfl) (by kernel_rfl) rfl (by kernel_rfl) (by kernel_rfl) (fun _ _ _ h => h) (Y.sliceLo (k := 4) rfl Try.underlying27 sz5 rfl rfl (by omega)) ?_
      refine TA.one 2 (by kernel_rfl) rfl rfl rfl rfl (X.call rfl Try.func45 (by kernel_rfl) rfl rfl (Fn.preE (by repeat first | (with_reducible apply Ent.refl) | (apply Ent.cons; case h => first | (with_reducible (repeat first | apply Pull.here | apply Pull.there); done) | (repeat first | apply Pull.here | apply Pull.there))) (Number_fn _ 2 _ [e2, e3] rfl _))) ?_
      rintro _ _ ⟨rfl, rfl⟩
      refine ⟨(Or.inr (by repeat first | exact holds_nil | refine holds_cons (by with_reducible (repeat first | apply In.here | apply In.there)) ?_)), ?_⟩
      refine TA.take 3 rfl rfl rfl rfl (by kernel_rfl) (by kernel_rfl) (by kernel_rfl) rfl (by kernel_rfl) (by kernel_rfl) (fun _ _ _ h => h) (Y.conv rfl Try.underlying81 Try.underlying44 rfl (cv_64_16)) ?_
      refine TA.as (v16 (num [e2, e3]).toUInt16) (by rw [num64_2]) ?_
      refine TA.take 4 rfl rfl rfl rfl (by kernel_rfl) (by kernel_rfl) (by kernel_rfl) rfl (by kernel_rfl) (by kernel_rfl) (fun _ _ _ h => h) (Y.bin rfl rfl rfl (br_xor16 (y := 8466))) ?_
      refine TA.one 7 (by kernel_rfl) rfl rfl rfl rfl (X.call rfl Try.func45 (by kernel_rfl) rfl rfl (Fn.preE (by repeat first | (with_reducible apply Ent.refl) | (apply Ent.cons; case h => first | (with_reducible (repeat first | apply Pull.here | apply Pull.there); done) | (repeat first | apply Pull.here | apply Pull.there))) (Number_fn _ 4 _ [e4, e5, e6, e7] rfl _))) ?_
      rintro _ _ ⟨rfl, rfl⟩
      refine ⟨(Or.inr (by repeat first | exact holds_nil | refine holds_cons (by with_reducible (repeat first | apply In.here | apply In.there)) ?_)), ?_⟩
      refine TA.take 8 rfl rfl rfl rfl (by kernel_rfl) (by kernel_rfl) (by kernel_rfl) rfl (by kernel_rfl) (by kernel_rfl) (fun _ _ _ h => h) (Y.conv rfl Try.underlying81 Try.underlying45 rfl (cv_64_32)) ?_
      refine TA.as (v32 (num [e4, e5, e6, e7])) (by rw [num64_4]) ?_
      refine TA.take 9 rfl rfl rfl rfl (by kernel_rfl) (by kernel_rfl) (by kernel_rfl) rfl (by kernel_rfl) (by kernel_rfl) (fun _ _ _ h => h) (Y.bin rfl rfl rfl (br_xor32 (y := 554869826))) ?_
      refine TA.take 10 rfl rfl rfl rfl (by kernel_rfl) (by kernel_rfl) (by kernel_rfl) rfl (by kernel_rfl) (by kernel_rfl) (fun _ _ _ h => h) (Y.buildS rfl rfl pl47 zc47 rfl) ?_
      refine TA.as (.agg #[v32 (num [e4, e5, e6, e7] ^^^ 554869826), v16 ((num [e2, e3]).toUInt16 ^^^ 8466)]) (by rfl) ?_
      refine TA.one0 11 (by kernel_rfl) rfl rfl rfl (by first | exact X.storeAll rfl sz47 (by rfl) rfl rfl (allOne (by rfl)) (by first | (with_reducible (repeat first | apply Pull.here | apply Pull.there); done) | (repeat first | apply Pull.here | apply Pull.there)) (by rfl) | exact X.storeAll rfl sz47 (by ((try simp only [List.size_toArray, List.length_set, List.length_map, List.length_append, List.length_replicate, List.length_cons, List.length_nil]); (first | done | omega | (simp [*]; done)))) rfl rfl (by simp [Value.oneCell']) (by first | (with_reducible (repeat first | apply Pull.here | apply Pull.there); done) | (repeat first | apply Pull.here | apply Pull.there)) (by ((try simp only [List.size_toArray, List.length_set, List.length_map, List.length_append, List.length_replicate, List.length_cons, List.length_nil]); (first | done | omega | (simp [*]; done)))) | exact X.storeAgg rfl sz47 (by ((try simp only [List.size_toArray, List.length_set, List.length_map, List.length_append, List.length_replicate, List.length_cons, List.length_nil]); (first | done | omega | (simp [*]; done)))) rfl rfl (by simp [Value.oneCell']) (by first | (with_reducible (repeat first | apply Pull.here | apply Pull.there); done) | (repeat first | apply Pull.here | apply Pull.there)) (by ((try simp only [List.size_toArray, List.length_set, List.length_map, List.length_append, List.length_replicate, List.length_cons, List.length_nil]); (first | done | omega | (simp [*]; done)))) (writeM (by ((try simp only [List.length_set, List.length_map, List.length_append, List.length_replicate]); omega)))) ?_
      rintro _ _ rfl
      refine ⟨(Or.inl (by kernel_rfl)), ?_⟩
      refine TA.takeP 12 rfl rfl rfl rfl (by kernel_rfl) (by kernel_rfl) (by kernel_rfl) rfl (fun _ _ _ h => h) (Y.assign rfl rfl) ?_
      refine TA.done (by kernel_rfl) ?_
      refine TQ.next ?_
      refine TC.ret ?_
      refine TQ.retE (resL rfl (Res.agg rfl ag47 (by first | exact Cels.all (cs := #[v32 0, v16 0]) (by with_reducible (repeat first | apply In.here | apply In.there)) | exact Cels.all (cs := #[v32 (num [e4, e5, e6, e7] ^^^ 554869826), v16 ((num [e2, e3]).toUInt16 ^^^ 8466)]) (by with_reducible (repeat first | apply In.here | apply In.there))) (by rfl) (Res.tmp rfl Res.nil))) (⟨rfl, rfl⟩) ?_
      exact (by (repeat first | (with_reducible apply Ent.refl) | (with_reducible apply Ent.nil) | refine Ent.cons (by first | (with_reducible (repeat first | apply Pull.here | apply Pull.there); done) | (repeat first | apply Pull.here | apply Pull.there)) ?_ | refine Ent.skip ?_))
--REG rostrum/rostrumref04.ReadMapped : _ _ ⟨rfl, rfl⟩ => (stun.refReadMapped_fn _ _ _ _ (by first | assumption | rfl) _)
theorem refReadMapped_fn (a : Option Addr) (n cap : Nat) (b : List UInt8) (hn : b.length = n) (L : List SA) :
    Fn Try.prog 20 [.slice a n cap] (SA.rds 1 (.slice a n cap) n (b.map v8) :: L)
      (fun v L' => v = .tuple #[.agg #[v32 (ma (mapR b)).1, v16 (ma (mapR b)).2], vN (me (mapR b))] ∧ L' = SA.rds 1 (.slice a n cap) n (b.map v8) :: L) := by
  by_cases h8 : b.length = 8
  · obtain ⟨e0, e1, e2, e3, e4, e5, e6, e7, hb⟩ := eight8 h8
    have hn8 : n = 8 := by rw [← hn, h8]
    subst hn8; subst hb
    exact refReadMapped_8 e0 e1 e2 e3 e4 e5 e6 e7 a cap L
  · rw [mapR_len h8]
    exact refReadMapped_len a n cap b hn h8 L
def failB (code : Int) : List UInt8 := [0, 0, UInt8.ofNat ((max code 0).toNat / 100), UInt8.ofNat ((max code 0).toNat % 100)]
def failM (code : Int) (s : Option Addr × Nat) : At := (9, ⟨s.1, s.2, failB code⟩)
set_option maxHeartbeats 1000000 in
--REG rostrum/stun.Failure : _ _ ⟨xa{d}, xs{d}, rfl, rfl⟩ => (stun.Failure_fn _ _ _ _ _ _ (by assumption) (by assumption) _)
theorem Failure_fn (c m : Int) (f : Nat → UInt8) (s : Value) (code : Int) (h1 : -9223372036854775808 ≤ code) (h2 : code ≤ 9223372036854775807) (L : List SA) :
    Fn Try.prog 23 [.agg (msgC c m f s), vI code] L
      (fun v L' => ∃ a' s', v = .agg (msgC 3 m f (.slice a' 1 1)) ∧ L' = SA.dat (⟨a', 1, [failM code s']⟩ : Sl At) :: L) := by
  refine Fn.of (N := 21) Try.func23 rfl rfl ?_
  intro Xh
  have hcn : (max code 0).toNat < 9223372036854775808 := by omega
  refine TC.seq ?_
  refine TC.region ?_
  refine TL.eff rfl rfl rfl (X.boxA rfl rfl) ?_
  rintro _ _ ⟨b2, rfl, rfl⟩
  refine TL.eff rfl rfl rfl (X.alloc rfl zc34) ?_
  rintro _ _ ⟨b4, rfl, rfl⟩
  refine TL.nil ?_
  refine TQ.next ?_
  refine TC.seq ?_
  refine TC.region ?_
  refine TL.val rfl rfl rfl (Y.move rfl rfl) ?_
  refine TL.val rfl rfl rfl (Y.maxI (n := 0) rfl rfl rfl) ?_
  refine TL.as (vN (max code 0).toNat) (by (show vI _ = vI _; rw [Int.toNat_of_nonneg (by omega)])) ?_
  refine TL.val rfl rfl rfl (Y.assign rfl rfl) ?_
  refine TL.nil ?_
  refine TQ.next ?_
  refine TC.seq ?_
  refine TC.region ?_
  refine TL.val rfl rfl rfl (by first | exact Y.fieldAddrJ rfl fo34_1 rfl (by ((try simp only [Nat.zero_add, Nat.add_zero, Nat.mul_one, Nat.one_mul, Nat.mul_zero, Nat.zero_mul]) <;> rfl)) | exact Y.fieldAddr rfl fo34_1 rfl (by ((try simp only [Nat.zero_add, Nat.add_zero, Nat.mul_one, Nat.one_mul, Nat.mul_zero, Nat.zero_mul]) <;> rfl))) ?_
  refine TL.val rfl rfl rfl (Y.load rfl sc3 rfl (by first | exact Cel.datAt0 (by with_reducible (repeat first | apply In.here | apply In.there)) (by assumption) (by rfl) | exact Cel.datAt (by with_reducible (repeat first | apply In.here | apply In.there)) (by assumption) (by rfl) | exact Cel.datAtS (by with_reducible (repeat first | apply In.here | apply In.there)) (by assumption) (by rfl) | exact Cel.blk (by with_reducible (repeat first | apply In.here | apply In.there)) (by first | exact getM (d := (0 : Nat)) (by ((try simp only [List.length_set, List.length_map, List.length_append, List.length_replicate, List.size_toArray, List.length_cons, List.length_nil, Array.size_setIfInBounds]); omega)) | rfl) | exact Cel.rblk (by with_reducible (repeat first | apply In.here | apply In.there)) (by first | exact getM (d := (0 : Nat)) (by ((try simp only [List.length_set, List.length_map, List.length_append, List.length_replicate, List.size_toArray, List.length_cons, List.length_nil, Array.size_setIfInBounds]); omega)) | rfl) | exact Cel.rds (by with_reducible (repeat first | apply In.here | apply In.there)) (getML (d := (0 : Nat)) (by ((try simp only [List.length_set, List.length_map, List.length_append, List.length_replicate, List.size_toArray, List.length_cons, List.length_nil, Array.size_setIfInBounds]); omega))) | exact Cel.rdsB (by with_reducible (repeat first | apply In.here | apply In.there)) (getML (d := (0 : Nat)) (by ((try simp only [List.length_set, List.length_map, List.length_append, List.length_replicate, List.size_toArray, List.length_cons, List.length_nil, Array.size_setIfInBounds]); omega))) | exact Cel.owns (by with_reducible (repeat first | apply In.here | apply In.there)) (getML (d := (0 : Nat)) (by ((try simp only [List.length_set, List.length_map, List.length_append, List.length_replicate, List.size_toArray, List.length_cons, List.length_nil, Array.size_setIfInBounds]); omega))) | exact Cel.reads (by assumption) (by with_reducible (repeat first | apply In.here | apply In.there)) (getML (d := (0 : Nat)) (by ((try simp only [List.length_set, List.length_map, List.length_append, List.length_replicate, List.size_toArray, List.length_cons, List.length_nil, Array.size_setIfInBounds]); omega))) | exact Cel.rds0 (by with_reducible (repeat first | apply In.here | apply In.there)) (getML (d := (0 : Nat)) (by ((try simp only [List.length_set, List.length_map, List.length_append, List.length_replicate, List.size_toArray, List.length_cons, List.length_nil, Array.size_setIfInBounds]); omega))) | exact Cel.owns0 (by with_reducible (repeat first | apply In.here | apply In.there)) (getML (d := (0 : Nat)) (by ((try simp only [List.length_set, List.length_map, List.length_append, List.length_replicate, List.size_toArray, List.length_cons, List.length_nil, Array.size_setIfInBounds]); omega))))) ?_
  refine TL.val rfl rfl rfl (by first | exact Y.fieldAddrJ rfl fo34_2 rfl (by ((try simp only [Nat.zero_add, Nat.add_zero, Nat.mul_one, Nat.one_mul, Nat.mul_zero, Nat.zero_mul]) <;> rfl)) | exact Y.fieldAddr rfl fo34_2 rfl (by ((try simp only [Nat.zero_add, Nat.add_zero, Nat.mul_one, Nat.one_mul, Nat.mul_zero, Nat.zero_mul]) <;> rfl))) ?_
  refine TL.val rfl rfl rfl (Y.loadAgg rfl ag22 rfl (Cels.blk (by with_reducible (repeat first | apply In.here | apply In.there)) (cs := msgC c m f s) (l := (idL f).map v8) (msg_id c m f _)) (by first | rfl | ((try simp only [List.length_map, List.length_set, List.length_replicate]); omega))) ?_
  refine TL.val rfl rfl rfl (Y.move rfl rfl) ?_
  refine TL.val rfl rfl rfl (Y.bin rfl rfl rfl (br_quoN (n := 100) (by omega) (by omega))) ?_
  refine TL.val rfl rfl rfl (Y.conv rfl Try.underlying3 Try.underlying5 rfl (cv_N_8)) ?_
  refine TL.val rfl rfl rfl (Y.move rfl rfl) ?_
  refine TL.val rfl rfl rfl (Y.bin rfl rfl rfl (br_remN (n := 100) (by omega))) ?_
  refine TL.val rfl rfl rfl (Y.conv rfl Try.underlying3 Try.underlying5 rfl (cv_N_8)) ?_
  refine TL.eff rfl rfl rfl (X.lit rfl el27 rfl rfl rfl (by decide) rfl) ?_
  rintro _ _ ⟨g17, rfl, rfl⟩
  refine TL.val rfl rfl rfl (Y.buildS (cells := #[v16 9, .slice (some ⟨g17, 0, none⟩) 4 4]) rfl rfl pl73 zc73 (by kernel_rfl)) ?_
  refine TL.eff rfl rfl rfl (X.litA (bytes := 0) (z := .nilFunc) rfl Try.underlying32 zs73 rfl rfl rfl (by decide) (by decide) (by decide) rfl (cells := [v16 9, .slice (some ⟨g17, 0, none⟩) 4 4]) rfl rfl) ?_
  rintro _ _ ⟨g19, rfl, rfl⟩
  refine TL.val rfl rfl rfl (Y.buildS (cells := msgC 3 m f (.slice (some ⟨g19, 0, none⟩) 1 1)) rfl rfl pl34 zc34 (by kernel_rfl)) ?_
  refine TL.eff0 rfl rfl (X.storeAll rfl (by kernel_rfl) (msgC_size 3 m f _) rfl rfl (msg_one 3 m f _ _ _) (by first | (with_reducible (repeat first | apply Pull.here | apply Pull.there); done) | (repeat first | apply Pull.here | apply Pull.there)) rfl) ?_
  rintro _ _ rfl
  refine TL.nil ?_
  refine TQ.next ?_
  refine TC.ret ?_
  refine TQ.retE (resC rfl ag34 rfl (Cels.all (cs := msgC 3 m f (.slice (some ⟨g19, 0, none⟩) 1 1)) (by with_reducible (repeat first | apply In.here | apply In.there))) rfl) (⟨_, (some ⟨g17, 0, none⟩, 4), rfl, rfl⟩) ?_
  exact ((Ent.mkAt (t := 9) (a := some ⟨g17, 0, none⟩) (n := 4) (cap := 4) (bs := failB code) (by first | (with_reducible (repeat first | apply Pull.here | apply Pull.there); done) | (repeat first | apply Pull.here | apply Pull.there)) rfl).trans (Ent.trans Ent.rdss0 (Ent.trans (Ent.addEl (ys := ([] : List At)) (by first | (with_reducible (repeat first | apply Pull.here | apply Pull.there); done) | (repeat first | apply Pull.here | apply Pull.there)) (by first | (with_reducible (repeat first | apply Pull.here | apply Pull.there); done) | (repeat first | apply Pull.here | apply Pull.there))) (Ent.trans (Ent.mkOwn (l := [failM code (some ⟨g17, 0, none⟩, 4)]) (a := some ⟨g19, 0, none⟩) (n := 1) (cap := 1) (by first | (with_reducible (repeat first | apply Pull.here | apply Pull.there); done) | (repeat first | apply Pull.here | apply Pull.there)) (by first | (with_reducible (repeat first | apply Pull.here | apply Pull.there); done) | (repeat first | apply Pull.here | apply Pull.there)) rfl rfl rfl) (by (repeat first | (with_reducible apply Ent.refl) | (with_reducible apply Ent.nil) | refine Ent.cons (by first | (with_reducible (repeat first | apply Pull.here | apply Pull.there); done) | (repeat first | apply Pull.here | apply Pull.there)) ?_ | refine Ent.skip ?_))))))
set_option maxHeartbeats 1000000 in
--REG rostrum/rostrumref04.Failure : _ _ ⟨xa{d}, xs{d}, rfl, rfl⟩ => (stun.refFailure_fn _ _ _ _ _ _ (by assumption) (by assumption) _)
theorem refFailure_fn (c m : Int) (f : Nat → UInt8) (s : Value) (code : Int) (h1 : -9223372036854775808 ≤ code) (h2 : code ≤ 9223372036854775807) (L : List SA) :
    Fn Try.prog 24 [.agg (msgC c m f s), vI code] L
      (fun v L' => ∃ a' s', v = .agg (msgC 3 m f (.slice a' 1 1)) ∧ L' = SA.dat (⟨a', 1, [failM code s']⟩ : Sl At) :: L) := by
  refine Fn.of (N := 21) Try.func24 rfl rfl ?_
  intro Xh
  have hcn : (max code 0).toNat < 9223372036854775808 := by omega
  refine TC.seq ?_
  refine TC.region ?_
  refine TL.eff rfl rfl rfl (X.boxA rfl rfl) ?_
  rintro _ _ ⟨b2, rfl, rfl⟩
  refine TL.eff rfl rfl rfl (X.alloc rfl zc25) ?_
  rintro _ _ ⟨b4, rfl, rfl⟩
  refine TL.nil ?_
  refine TQ.next ?_
  refine TC.seq ?_
  refine TC.region ?_
  refine TL.val rfl rfl rfl (Y.move rfl rfl) ?_
  refine TL.val rfl rfl rfl (Y.maxI (n := 0) rfl rfl rfl) ?_
  refine TL.as (vN (max code 0).toNat) (by (show vI _ = vI _; rw [Int.toNat_of_nonneg (by omega)])) ?_
  refine TL.val rfl rfl rfl (Y.assign rfl rfl) ?_
  refine TL.nil ?_
  refine TQ.next ?_
  refine TC.seq ?_
  refine TC.region ?_
  refine TL.val rfl rfl rfl (by first | exact Y.fieldAddrJ rfl fo25_1 rfl (by ((try simp only [Nat.zero_add, Nat.add_zero, Nat.mul_one, Nat.one_mul, Nat.mul_zero, Nat.zero_mul]) <;> rfl)) | exact Y.fieldAddr rfl fo25_1 rfl (by ((try simp only [Nat.zero_add, Nat.add_zero, Nat.mul_one, Nat.one_mul, Nat.mul_zero, Nat.zero_mul]) <;> rfl))) ?_
  refine TL.val rfl rfl rfl (Y.load rfl sc3 rfl (by first | exact Cel.datAt0 (by with_reducible (repeat first | apply In.here | apply In.there)) (by assumption) (by rfl) | exact Cel.datAt (by with_reducible (repeat first | apply In.here | apply In.there)) (by assumption) (by rfl) | exact Cel.datAtS (by with_reducible (repeat first | apply In.here | apply In.there)) (by assumption) (by rfl) | exact Cel.blk (by with_reducible (repeat first | apply In.here | apply In.there)) (by first | exact getM (d := (0 : Nat)) (by ((try simp only [List.length_set, List.length_map, List.length_append, List.length_replicate, List.size_toArray, List.length_cons, List.length_nil, Array.size_setIfInBounds]); omega)) | rfl) | exact Cel.rblk (by with_reducible (repeat first | apply In.here | apply In.there)) (by first | exact getM (d := (0 : Nat)) (by ((try simp only [List.length_set, List.length_map, List.length_append, List.length_replicate, List.size_toArray, List.length_cons, List.length_nil, Array.size_setIfInBounds]); omega)) | rfl) | exact Cel.rds (by with_reducible (repeat first | apply In.here | apply In.there)) (getML (d := (0 : Nat)) (by ((try simp only [List.length_set, List.length_map, List.length_append, List.length_replicate, List.size_toArray, List.length_cons, List.length_nil, Array.size_setIfInBounds]); omega))) | exact Cel.rdsB (by with_reducible (repeat first | apply In.here | apply In.there)) (getML (d := (0 : Nat)) (by ((try simp only [List.length_set, List.length_map, List.length_append, List.length_replicate, List.size_toArray, List.length_cons, List.length_nil, Array.size_setIfInBounds]); omega))) | exact Cel.owns (by with_reducible (repeat first | apply In.here | apply In.there)) (getML (d := (0 : Nat)) (by ((try simp only [List.length_set, List.length_map, List.length_append, List.length_replicate, List.size_toArray, List.length_cons, List.length_nil, Array.size_setIfInBounds]); omega))) | exact Cel.reads (by assumption) (by with_reducible (repeat first | apply In.here | apply In.there)) (getML (d := (0 : Nat)) (by ((try simp only [List.length_set, List.length_map, List.length_append, List.length_replicate, List.size_toArray, List.length_cons, List.length_nil, Array.size_setIfInBounds]); omega))) | exact Cel.rds0 (by with_reducible (repeat first | apply In.here | apply In.there)) (getML (d := (0 : Nat)) (by ((try simp only [List.length_set, List.length_map, List.length_append, List.length_replicate, List.size_toArray, List.length_cons, List.length_nil, Array.size_setIfInBounds]); omega))) | exact Cel.owns0 (by with_reducible (repeat first | apply In.here | apply In.there)) (getML (d := (0 : Nat)) (by ((try simp only [List.length_set, List.length_map, List.length_append, List.length_replicate, List.size_toArray, List.length_cons, List.length_nil, Array.size_setIfInBounds]); omega))))) ?_
  refine TL.val rfl rfl rfl (by first | exact Y.fieldAddrJ rfl fo25_2 rfl (by ((try simp only [Nat.zero_add, Nat.add_zero, Nat.mul_one, Nat.one_mul, Nat.mul_zero, Nat.zero_mul]) <;> rfl)) | exact Y.fieldAddr rfl fo25_2 rfl (by ((try simp only [Nat.zero_add, Nat.add_zero, Nat.mul_one, Nat.one_mul, Nat.mul_zero, Nat.zero_mul]) <;> rfl))) ?_
  refine TL.val rfl rfl rfl (Y.loadAgg rfl ag22 rfl (Cels.blk (by with_reducible (repeat first | apply In.here | apply In.there)) (cs := msgC c m f s) (l := (idL f).map v8) (msg_id c m f _)) (by first | rfl | ((try simp only [List.length_map, List.length_set, List.length_replicate]); omega))) ?_
  refine TL.val rfl rfl rfl (Y.move rfl rfl) ?_
  refine TL.val rfl rfl rfl (Y.bin rfl rfl rfl (br_quoN (n := 100) (by omega) (by omega))) ?_
  refine TL.val rfl rfl rfl (Y.conv rfl Try.underlying3 Try.underlying5 rfl (cv_N_8)) ?_
  refine TL.val rfl rfl rfl (Y.move rfl rfl) ?_
  refine TL.val rfl rfl rfl (Y.bin rfl rfl rfl (br_remN (n := 100) (by omega))) ?_
  refine TL.val rfl rfl rfl (Y.conv rfl Try.underlying3 Try.underlying5 rfl (cv_N_8)) ?_
  refine TL.eff rfl rfl rfl (X.lit rfl el27 rfl rfl rfl (by decide) rfl) ?_
  rintro _ _ ⟨g17, rfl, rfl⟩
  refine TL.val rfl rfl rfl (Y.buildS (cells := #[v16 9, .slice (some ⟨g17, 0, none⟩) 4 4]) rfl rfl pl65 zc65 (by kernel_rfl)) ?_
  refine TL.eff rfl rfl rfl (X.litA (bytes := 0) (z := .nilFunc) rfl Try.underlying23 zs65 rfl rfl rfl (by decide) (by decide) (by decide) rfl (cells := [v16 9, .slice (some ⟨g17, 0, none⟩) 4 4]) rfl rfl) ?_
  rintro _ _ ⟨g19, rfl, rfl⟩
  refine TL.val rfl rfl rfl (Y.buildS (cells := msgC 3 m f (.slice (some ⟨g19, 0, none⟩) 1 1)) rfl rfl pl25 zc25 (by kernel_rfl)) ?_
  refine TL.eff0 rfl rfl (X.storeAll rfl (by kernel_rfl) (msgC_size 3 m f _) rfl rfl (msg_one 3 m f _ _ _) (by first | (with_reducible (repeat first | apply Pull.here | apply Pull.there); done) | (repeat first | apply Pull.here | apply Pull.there)) rfl) ?_
  rintro _ _ rfl
  refine TL.nil ?_
  refine TQ.next ?_
  refine TC.ret ?_
  refine TQ.retE (resC rfl ag25 rfl (Cels.all (cs := msgC 3 m f (.slice (some ⟨g19, 0, none⟩) 1 1)) (by with_reducible (repeat first | apply In.here | apply In.there))) rfl) (⟨_, (some ⟨g17, 0, none⟩, 4), rfl, rfl⟩) ?_
  exact ((Ent.mkAt (t := 9) (a := some ⟨g17, 0, none⟩) (n := 4) (cap := 4) (bs := failB code) (by first | (with_reducible (repeat first | apply Pull.here | apply Pull.there); done) | (repeat first | apply Pull.here | apply Pull.there)) rfl).trans (Ent.trans Ent.rdss0 (Ent.trans (Ent.addEl (ys := ([] : List At)) (by first | (with_reducible (repeat first | apply Pull.here | apply Pull.there); done) | (repeat first | apply Pull.here | apply Pull.there)) (by first | (with_reducible (repeat first | apply Pull.here | apply Pull.there); done) | (repeat first | apply Pull.here | apply Pull.there))) (Ent.trans (Ent.mkOwn (l := [failM code (some ⟨g17, 0, none⟩, 4)]) (a := some ⟨g19, 0, none⟩) (n := 1) (cap := 1) (by first | (with_reducible (repeat first | apply Pull.here | apply Pull.there); done) | (repeat first | apply Pull.here | apply Pull.there)) (by first | (with_reducible (repeat first | apply Pull.here | apply Pull.there); done) | (repeat first | apply Pull.here | apply Pull.there)) rfl rfl rfl) (by (repeat first | (with_reducible apply Ent.refl) | (with_reducible apply Ent.nil) | refine Ent.cons (by first | (with_reducible (repeat first | apply Pull.here | apply Pull.there); done) | (repeat first | apply Pull.here | apply Pull.there)) ?_ | refine Ent.skip ?_))))))
end stun
end Go.Proofs.Ytggammbhmoippaa
