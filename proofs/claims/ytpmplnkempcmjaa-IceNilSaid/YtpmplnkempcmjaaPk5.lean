/- The logic and the walks, in one text with others: part 5 of 6. -/
import Derived.Lib.ConvBytes
import Derived.Test.YtpmplnkempcmjaaChecked
import Derived.Test.YtpmplnkempcmjaaPk4
/- Find, Mapped, ReadMapped, Failure, in both texts. -/
namespace Go.Proofs.Ytpmplnkempcmjaa
set_option linter.unusedVariables false
set_option linter.unusedSimpArgs false
open Go.RowKit
namespace stun
open wr (be16 be32)
open r1 (be2 be4 be2_len be4_len)
open rd (rdB rdL rdV num num1)
namespace FxStunPt
set_option maxRecDepth 100000
theorem ag40 : Program.aggN Try.prog 40 = some 12 := by kernel_rfl
theorem ag58 : Program.aggN Try.prog 58 = some 15 := by kernel_rfl
theorem ag76 : Program.aggN Try.prog 76 = some 2 := by kernel_rfl
theorem el30 : Elt Try.prog 30 5 1 1 (.int .u8 0) := ⟨Try.underlying30, by kernel_rfl, rfl, by decide, by simp [Value.cells, Value.oneCell']⟩
theorem el96 : Elt Try.prog 96 5 1 1 (.int .u8 0) := ⟨Try.underlying96, by kernel_rfl, rfl, by decide, by simp [Value.cells, Value.oneCell']⟩
theorem fo28_0 : Program.fieldOff Try.prog 28 0 = some 0 := by kernel_rfl
theorem fo28_1 : Program.fieldOff Try.prog 28 1 = some 1 := by kernel_rfl
theorem fo58_1 : Program.fieldOff Try.prog 58 1 = some 1 := by kernel_rfl
theorem fo58_2 : Program.fieldOff Try.prog 58 2 = some 2 := by kernel_rfl
theorem fo58_3 : Program.fieldOff Try.prog 58 3 = some 14 := by kernel_rfl
theorem fo76_0 : Program.fieldOff Try.prog 76 0 = some 0 := by kernel_rfl
theorem fo76_1 : Program.fieldOff Try.prog 76 1 = some 1 := by kernel_rfl
theorem pl58 : Program.places Try.prog 58 = some [(0, 1), (1, 1), (2, 12), (14, 1)] := by kernel_rfl
theorem pl76 : Program.places Try.prog 76 = some [(0, 1), (1, 1)] := by kernel_rfl
theorem sc22 : Program.isSc Try.prog 22 = true := by kernel_rfl
theorem sc26 : Program.isSc Try.prog 26 = true := by kernel_rfl
theorem sc3 : Program.isSc Try.prog 3 = true := by kernel_rfl
theorem sc30 : Program.isSc Try.prog 30 = true := by kernel_rfl
theorem sc56 : Program.isSc Try.prog 56 = true := by kernel_rfl
theorem sc96 : Program.isSc Try.prog 96 = true := by kernel_rfl
theorem sl56 : Program.slI Try.prog 56 = some 2 := by kernel_rfl
theorem sz76 : (Try.prog.info? 76).map (·.size) = some 2 := by kernel_rfl
theorem sz96 : (Try.prog.info? 96).map (·.size) = some 1 := by kernel_rfl
theorem zc58 : Program.zeroC Try.prog 58 = some #[.int .i64 0, .int .i64 0, .int .u8 0, .int .u8 0, .int .u8 0, .int .u8 0, .int .u8 0, .int .u8 0, .int .u8 0, .int .u8 0, .int .u8 0, .int .u8 0, .int .u8 0, .int .u8 0, .slice none 0 0] := by kernel_rfl
theorem zc76 : Program.zeroC Try.prog 76 = some #[.int .u16 0, .slice none 0 0] := by kernel_rfl
theorem zc96 : Program.zeroC Try.prog 96 = some #[.slice none 0 0] := by kernel_rfl
theorem zs76 : ((Try.prog.info? 76).bind fun i => i.zero.map fun z => (i.size, z.cells.size)) = some (2, 2) := by kernel_rfl
end FxStunPt
open FxStunPt
def findP (xs : List PA) (k : UInt16) : Option PA := xs.find? fun p => p.1 == k
def fv : Option PA → List UInt8
  | some p => p.2
  | none => []
def fo : Option PA → Bool
  | some _ => true
  | none => false
theorem find_hit {xs : List PA} {k : UInt16} {i : Nat} {x : PA} (h : findP (xs.take i) k = none) (hx : xs[i]? = some x) (hk : x.1 = k) : findP xs k = some x := by
  have hi := (List.getElem?_eq_some_iff.1 hx).1
  have e : xs = xs.take i ++ (x :: xs.drop (i + 1)) := by
    rw [← (List.getElem?_eq_some_iff.1 hx).2, List.getElem_cons_drop, List.take_append_drop]
  unfold findP at h ⊢
  rw [e, List.find?_append, h]
  simp [hk]
theorem find_miss {xs : List PA} {k : UInt16} {i : Nat} {x : PA} (h : findP (xs.take i) k = none) (hx : xs[i]? = some x) (hk : (x.1 == k) = false) : findP (xs.take (i + 1)) k = none := by
  unfold findP at h ⊢
  rw [List.take_add_one, hx, List.find?_append, h]
  simp [hk]
set_option maxHeartbeats 1000000 in
--REG rostrum/stun.Find : _ _ ⟨fa{d}, fc{d}, rfl, rfl⟩ => (stun.Find_fn _ _ _ _ _ _ _ (by assumption) _)
theorem Find_fn (c m : Int) (f : Nat → UInt8) (a : Option Addr) (cap : Nat) (l : List At) (kind : UInt16) (hb : ∀ x ∈ l, x.2.l.length ≤ 140737488351232) (L : List SA) :
    Fn Try.prog 24 [.agg (msgC c m f (.slice a l.length cap)), v16 kind] (SA.dat (⟨a, cap, l⟩ : Sl At) :: L)
      (fun v L' => ∃ a' c', v = .tuple #[.slice a' (fv (findP (l.map pl) kind)).length c', .bool (fo (findP (l.map pl) kind))] ∧
        L' = SA.owns 5 1 (.slice a' (fv (findP (l.map pl) kind)).length c') (fv (findP (l.map pl) kind)).length ((fv (findP (l.map pl) kind)).map v8) :: SA.dat (⟨a, cap, l⟩ : Sl At) :: L) := by
  obtain ⟨r, hr⟩ : ∃ r, r = findP (l.map pl) kind := ⟨_, rfl⟩
  rw [← hr]
  refine Fn.of (N := 23) Try.func24 rfl rfl ?_
  intro Xh
  refine TC.know (dat_cap (a := a) inn) ?_
  rintro ⟨hc1, hc2, -⟩
  refine TC.seq ?_
  refine TC.region ?_
  refine TL.eff rfl rfl rfl (X.boxA rfl rfl) ?_
  rintro _ _ ⟨b2, rfl, rfl⟩
  refine TL.val rfl rfl rfl (Y.assign rfl rfl) ?_
  refine TL.val rfl rfl rfl (Y.assign rfl rfl) ?_
  refine TL.nil ?_
  refine TQ.next ?_
  refine TC.seq ?_
  refine TC.seq ?_
  refine TC.region ?_
  refine TL.val rfl rfl rfl (by first | exact Y.fieldAddrJ rfl fo58_3 rfl nqq | exact Y.fieldAddr rfl fo58_3 rfl nqq) ?_
  refine TL.val rfl rfl rfl (Y.load rfl sc56 rfl celD) ?_
  refine TL.val rfl rfl rfl (Y.len rfl Try.underlying56 rfl) ?_
  refine TL.val rfl rfl rfl (Y.move rfl rfl) ?_
  refine TL.nil ?_
  refine TQ.next ?_
  refine TC.block ?_
  refine TC.loopF (ι := Nat) [4, 5] (fun k => k ≤ l.length ∧ findP ((l.map pl).take k) kind = none) (fun k => [(11, some (vN k))]) (fun k => []) (fun k => l.length - k) (0) (⟨by omega, rfl⟩) ⟨rfl, trivial⟩ Pulls.nil ?_
  rintro k ⟨hk, hq⟩ F' L' rfl hL'
  simp only [List.cons_append, List.nil_append] at hL'
  subst hL'
  refine TC.seq ?_
  refine TC.region ?_
  refine TL.val rfl rfl rfl (Y.bin rfl rfl rfl (br_ltN)) ?_
  refine TL.nil ?_
  refine TQ.next ?_
  refine TC.seq ?_
  refine TC.cond rfl (fun c0 => ?_) (fun c0 => ?_)
  · try simp only [decide_eq_true_eq, decide_eq_false_iff_not, Bool.not_eq_true', Bool.not_eq_false', Bool.and_eq_true, Bool.or_eq_true, Nat.not_lt, Nat.not_le, beq_iff_eq, bne_iff_ne] at c0
    refine TC.skip ?_
    refine TQ.next ?_
    refine TC.seq ?_
    refine TC.block ?_
    refine TC.seq ?_
    obtain ⟨⟨t, a1, ac, bs⟩, hx, hxm⟩ := getS (l := l) (i := k) (by omega)
    refine TC.know (dat_some (a := a) inn (by omega)) ?_
    rintro ⟨g, off, rfl⟩
    have hbl : bs.length ≤ 140737488351232 := hb _ hxm
    have hp := at_pl hx
    refine TC.region ?_
    refine TL.val rfl rfl rfl (by first | exact Y.indexSlB rfl sl56 rfl rfl (by omega) nqq | exact Y.indexSl rfl sl56 rfl rfl (by omega) nqq) ?_
    refine TL.val rfl rfl rfl (Y.loadAgg rfl ag76 rfl (by first | exact Cels.datAt inn (by assumption) | exact Cels.full inn) (by first | rfl | ((try simp only [List.length_map, List.length_set, List.length_replicate]); omega))) ?_
    refine TL.as (.agg #[v16 t, .slice a1 bs.length ac]) (by rfl) ?_
    refine TL.eff rfl rfl rfl (X.alloc rfl zc76) ?_
    rintro _ _ ⟨b7, rfl, rfl⟩
    refine TL.eff0 rfl rfl (by first | exact X.storeAll rfl sz76 (by rfl) rfl rfl (allOne (by rfl)) pul (by rfl) | exact X.storeAll rfl sz76 szz rfl rfl (by simp [Value.oneCell']) pul szz | exact X.storeAgg rfl sz76 szz rfl rfl (by simp [Value.oneCell']) pul szz (writeM (by ((try simp only [List.length_set, List.length_map, List.length_append, List.length_replicate]); omega)))) ?_
    rintro _ _ rfl
    refine TL.nil ?_
    refine TQ.next ?_
    refine TC.seq ?_
    refine TC.region ?_
    refine TL.val rfl rfl rfl (by first | exact Y.fieldAddrJ rfl fo76_0 rfl nqq | exact Y.fieldAddr rfl fo76_0 rfl nqq) ?_
    refine TL.val rfl rfl rfl (Y.load rfl sc22 rfl cel16) ?_
    refine TL.val rfl rfl rfl (Y.move rfl rfl) ?_
    refine TL.val rfl rfl rfl (Y.bin rfl rfl rfl (br_eq16)) ?_
    refine TL.nil ?_
    refine TQ.next ?_
    refine TC.cond rfl (fun c1 => ?_) (fun c1 => ?_)
    · try simp only [decide_eq_true_eq, decide_eq_false_iff_not, Bool.not_eq_true', Bool.not_eq_false', Bool.and_eq_true, Bool.or_eq_true, Nat.not_lt, Nat.not_le, beq_iff_eq, bne_iff_ne] at c1
      refine TC.seq ?_
      obtain rfl : r = some (t, bs) := hr.trans (find_hit hq hp c1)
      refine TC.to (Ent.atBytes (a := some ⟨g, off, none⟩) pul hxm) ?_
      refine TC.region ?_
      refine TL.val rfl rfl rfl (by first | exact Y.fieldAddrJ rfl fo76_1 rfl nqq | exact Y.fieldAddr rfl fo76_1 rfl nqq) ?_
      refine TL.val rfl rfl rfl (Y.load rfl sc30 rfl celD) ?_
      refine TL.as (.slice a1 bs.length ac) (by rfl) ?_
      refine TL.eff rfl rfl rfl (X.call rfl Try.func51 (by kernel_rfl) rfl rfl (Fn.preE (by repeat first | (with_reducible apply Ent.refl) | (apply Ent.cons; case h => first | (with_reducible (repeat first | apply Pull.here | apply Pull.there); done) | (repeat first | apply Pull.here | apply Pull.there))) (rd.Clone_fn _ _ _ _ (by first | assumption | rfl) (by omega) _))) ?_
      rintro _ _ ⟨a21, c21, rfl, rfl⟩
      refine TL.val rfl rfl rfl (Y.assign rfl rfl) ?_
      refine TL.val rfl rfl rfl (Y.assign rfl rfl) ?_
      refine TL.nil ?_
      refine TQ.next ?_
      refine TC.ret ?_
      refine TQ.block_ret ?_
      refine TQ.then_ret ?_
      refine TQ.then_ret ?_
      refine TQ.block_ret ?_
      refine TQ.then_ret ?_
      refine TQ.retE (res2 rfl rfl rfl) (⟨_, _, rfl, rfl⟩) ?_
      exact ett
    · try simp only [decide_eq_true_eq, decide_eq_false_iff_not, Bool.not_eq_true', Bool.not_eq_false', Bool.and_eq_true, Bool.or_eq_true, Nat.not_lt, Nat.not_le, beq_iff_eq, bne_iff_ne] at c1
      refine TC.skip ?_
      refine TQ.block_normal ?_
      refine TQ.next ?_
      refine TC.region ?_
      refine TL.val rfl rfl rfl (Y.bin rfl rfl rfl (br_addN (n := 1) (by omega))) ?_
      refine TL.val rfl rfl rfl (Y.move rfl rfl) ?_
      refine TL.nil ?_
      refine TQ.loopF (k + 1) (⟨by omega, find_miss hq hp (by simpa using c1)⟩) (by omega) ⟨rfl, trivial⟩ (by (repeat first | apply Grow.refl | apply Grow.step | apply Grow.app)) ?_ ?_ ?_
      · kernel_rfl
      · rfl
      · simp only [List.cons_append, List.nil_append]
        exact ett
  · try simp only [decide_eq_true_eq, decide_eq_false_iff_not, Bool.not_eq_true', Bool.not_eq_false', Bool.and_eq_true, Bool.or_eq_true, Nat.not_lt, Nat.not_le, beq_iff_eq, bne_iff_ne] at c0
    refine TC.exit ?_
    refine TQ.then_exit ?_
    refine TQ.then_exit ?_
    refine TQ.block_exit ?_
    refine TQ.next ?_
    refine TC.seq ?_
    obtain rfl : k = l.length := by omega
    rw [← List.length_map (f := pl), List.take_length] at hq
    obtain rfl : r = none := hr.trans hq
    refine TC.to (Ent.nilOwn 5 1) ?_
    refine TC.region ?_
    refine TL.val rfl rfl rfl (Y.assign rfl rfl) ?_
    refine TL.val rfl rfl rfl (Y.assign rfl rfl) ?_
    refine TL.nil ?_
    refine TQ.next ?_
    refine TC.ret ?_
    refine TQ.retE (res2 rfl rfl rfl) (⟨_, _, rfl, rfl⟩) ?_
    exact ett
def mapB (ip : UInt32) (port : UInt16) : List UInt8 := [0, 1] ++ be16 (port ^^^ 8466) ++ be32 (ip ^^^ 554869826)
--REG rostrum/stun.Mapped : _ _ ⟨ma{d}, mc{d}, rfl, rfl⟩ => (stun.Mapped_fn _ _ _)
theorem Mapped_fn (ip : UInt32) (port : UInt16) (L : List SA) :
    Fn Try.prog 25 [.agg #[v32 ip, v16 port]] L
      (fun v L' => ∃ a' c', v = .slice a' (mapB ip port).length c' ∧ L' = SA.owns 5 1 (.slice a' (mapB ip port).length c') (mapB ip port).length ((mapB ip port).map v8) :: L) := by
  refine Fn.of (N := 14) Try.func25 rfl rfl ?_
  intro Xh
  refine TC.seq ?_
  refine TC.region ?_
  refine TL.eff rfl rfl rfl (X.boxA rfl rfl) ?_
  rintro _ _ ⟨b1, rfl, rfl⟩
  refine TL.val rfl rfl rfl (Y.assign rfl rfl) ?_
  refine TL.nil ?_
  refine TQ.next ?_
  refine TC.seq ?_
  refine TC.region ?_
  refine TL.eff rfl rfl rfl (X.lit rfl el96 rfl rfl rfl (by decide) rfl) ?_
  rintro _ _ ⟨g4, rfl, rfl⟩
  refine TL.eff rfl rfl rfl (X.alloc rfl zc96) ?_
  rintro _ _ ⟨b3, rfl, rfl⟩
  refine TL.eff0 rfl rfl (by first | exact X.store rfl sz96 rfl rfl rfl pul lnn (by first | exact setM | rfl) | exact X.storeOwn rfl sz96 rfl (Nat.zero_add _).symm rfl rfl pul lnn (by first | exact setML | rfl) | exact X.storeOwn rfl sz96 rfl rfl rfl rfl pul lnn (by first | exact setML | rfl)) ?_
  rintro _ _ rfl
  refine TL.nil ?_
  refine TQ.next ?_
  refine TC.seq ?_
  refine TC.to (wr.put (b := b3) (l := [0, 1]) (a := some ⟨g4, 0, none⟩) (n := 2) (cap := 2) pul (by rfl) pul rfl rfl Ent.refl) ?_
  refine TC.region ?_
  refine TL.val rfl rfl rfl (by first | exact Y.fieldAddrJ rfl fo28_1 rfl nqq | exact Y.fieldAddr rfl fo28_1 rfl nqq) ?_
  refine TL.val rfl rfl rfl (Y.load rfl sc22 rfl cel16) ?_
  refine TL.val rfl rfl rfl (Y.bin rfl rfl rfl (br_xor16 (y := 8466))) ?_
  refine TL.eff rfl rfl rfl (X.call rfl Try.func43 (by kernel_rfl) rfl rfl (Fn.preE (by repeat first | (with_reducible apply Ent.refl) | (apply Ent.cons; case h => first | (with_reducible (repeat first | apply Pull.here | apply Pull.there); done) | (repeat first | apply Pull.here | apply Pull.there))) (wr.U16_fn _ _ _ (by first | omega | (simp only [List.length_append, List.length_nil, List.length_cons, wr.be16_len, wr.be32_len]; omega) | (simp only [List.length_append, List.length_nil, List.length_cons, wr.be16_len, wr.be32_len, r1.be2_len, r1.be4_len]; omega) | (simp; omega)) _))) ?_
  rintro _ _ ⟨rfl, rfl⟩
  refine TL.nil ?_
  refine TQ.next ?_
  refine TC.seq ?_
  refine TC.region ?_
  refine TL.val rfl rfl rfl (by first | exact Y.fieldAddrJ rfl fo28_0 rfl nqq | exact Y.fieldAddr rfl fo28_0 rfl nqq) ?_
  refine TL.val rfl rfl rfl (Y.load rfl sc26 rfl cel32) ?_
  refine TL.val rfl rfl rfl (Y.bin rfl rfl rfl (br_xor32 (y := 554869826))) ?_
  refine TL.eff rfl rfl rfl (X.call rfl Try.func44 (by kernel_rfl) rfl rfl (Fn.preE (by repeat first | (with_reducible apply Ent.refl) | (apply Ent.cons; case h => first | (with_reducible (repeat first | apply Pull.here | apply Pull.there); done) | (repeat first | apply Pull.here | apply Pull.there))) (wr.U32_fn _ _ _ (by first | omega | (simp only [List.length_append, List.length_nil, List.length_cons, wr.be16_len, wr.be32_len]; omega) | (simp only [List.length_append, List.length_nil, List.length_cons, wr.be16_len, wr.be32_len, r1.be2_len, r1.be4_len]; omega) | (simp; omega)) _))) ?_
  rintro _ _ ⟨rfl, rfl⟩
  refine TL.nil ?_
  refine TQ.next ?_
  refine TC.seq ?_
  refine TC.open pul ?_
  rintro ⟨a, cap⟩
  refine TC.split pul ?_
  refine TC.region ?_
  refine TL.val rfl rfl rfl (Y.load rfl sc96 rfl celD) ?_
  refine TL.val rfl rfl rfl (Y.assign rfl rfl) ?_
  refine TL.nil ?_
  refine TQ.next ?_
  refine TC.ret ?_
  refine TQ.retE (res1 rfl rfl) (⟨a, cap, rfl, rfl⟩) ?_
  exact ett
theorem be2_be16 (x : UInt16) : be2 x.toNat = be16 x := (be16_two x).symm
/-- an address's value is read so -/
def mapR (b : List UInt8) : Option (UInt32 × UInt16) := match b with
  | [b0, b1, b2, b3, b4, b5, b6, b7] => if b0 = 0 ∧ b1 = 1 then some (num [b4, b5, b6, b7] ^^^ 554869826, (num [b2, b3]).toUInt16 ^^^ 8466) else none
  | _ => none
def ma : Option (UInt32 × UInt16) → UInt32 × UInt16
  | some x => x
  | none => (0, 0)
def me : Option (UInt32 × UInt16) → Nat
  | some _ => 0
  | none => 2
theorem mapR_len {b : List UInt8} (h : b.length ≠ 8) : mapR b = none := by
  unfold mapR
  split
  · exact absurd rfl h
  · rfl
def num641 (x : UInt64) (c : UInt8) : UInt64 := shl64 x 8 ||| c.toUInt64
def num64 (l : List UInt8) : UInt64 := l.foldl num641 0
theorem num64_s (l : List UInt8) (k : Nat) (h : k < l.length) : num64 (l.take (k + 1)) = num641 (num64 (l.take k)) (l.getD k 0) := by
  rw [num64, List.take_add_one, List.foldl_append, List.getElem?_eq_getElem h, List.getD_eq_getElem?_getD, List.getElem?_eq_getElem h]
  rfl
theorem step64 (n : Nat) (c : UInt8) (hn : n < 16777216) : num641 (UInt64.ofNat n) c = UInt64.ofNat (n * 256 + c.toNat) := by
  have hc := c.toNat_lt
  apply UInt64.toNat_inj.1
  rw [UInt64.toNat_ofNat_of_lt' (by show _ < 18446744073709551616; omega)]
  simp only [num641, shl64]
  rw [UInt64.toNat_or, UInt64.toNat_ofNat_of_lt' (show n < 18446744073709551616 by omega)]
  simp
  rw [show n * 256 % 18446744073709551616 = n * 256 by omega, or_add _ _ (by omega)]
theorem num64_2 (x y : UInt8) : (num64 [x, y]).toUInt16 = (num [x, y]).toUInt16 := by
  have hx := x.toNat_lt; have hy := y.toNat_lt
  have e : num64 [x, y] = UInt64.ofNat (x.toNat * 256 + y.toNat) := by
    simp only [num64, List.foldl_cons, List.foldl_nil]
    rw [show (0 : UInt64) = UInt64.ofNat 0 from rfl, step64 0 x (by omega), step64 _ y (by omega), Nat.zero_mul, Nat.zero_add]
  apply UInt16.toNat_inj.1
  rw [num2, e]
  simp
  omega
theorem num64_4 (x y z u : UInt8) : (num64 [x, y, z, u]).toUInt32 = num [x, y, z, u] := by
  have hx := x.toNat_lt; have hy := y.toNat_lt; have hz := z.toNat_lt; have hu := u.toNat_lt
  have e : num64 [x, y, z, u] = UInt64.ofNat (((x.toNat * 256 + y.toNat) * 256 + z.toNat) * 256 + u.toNat) := by
    simp only [num64, List.foldl_cons, List.foldl_nil]
    rw [show (0 : UInt64) = UInt64.ofNat 0 from rfl, step64 0 x (by omega), step64 _ y (by omega), step64 _ z (by omega), step64 _ u (by omega), Nat.zero_mul, Nat.zero_add]
  apply UInt32.toNat_inj.1
  rw [num4, e]
  simp
  omega
def failB (code : Int) : List UInt8 := [0, 0, UInt8.ofNat ((max code 0).toNat / 100), UInt8.ofNat ((max code 0).toNat % 100)]
def failM (code : Int) (s : Option Addr × Nat) : At := (9, ⟨s.1, s.2, failB code⟩)
set_option maxHeartbeats 1000000 in
--REG rostrum/stun.Failure : _ _ ⟨xa{d}, xs{d}, rfl, rfl⟩ => (stun.Failure_fn _ _ _ _ _ _ (by assumption) (by assumption) _)
theorem Failure_fn (c m : Int) (f : Nat → UInt8) (s : Value) (code : Int) (h1 : -9223372036854775808 ≤ code) (h2 : code ≤ 9223372036854775807) (L : List SA) :
    Fn Try.prog 19 [.agg (msgC c m f s), vI code] L
      (fun v L' => ∃ a' s', v = .agg (msgC 3 m f (.slice a' 1 1)) ∧ L' = SA.dat (⟨a', 1, [failM code s']⟩ : Sl At) :: L) := by
  refine Fn.of (N := 21) Try.func19 rfl rfl ?_
  intro Xh
  have hcn : (max code 0).toNat < 9223372036854775808 := by omega
  refine TC.seq ?_
  refine TC.region ?_
  refine TL.eff rfl rfl rfl (X.boxA rfl rfl) ?_
  rintro _ _ ⟨b2, rfl, rfl⟩
  refine TL.eff rfl rfl rfl (X.alloc rfl zc58) ?_
  rintro _ _ ⟨b4, rfl, rfl⟩
  refine TL.nil ?_
  refine TQ.next ?_
  refine TC.seq ?_
  refine TC.region ?_
  refine TL.val rfl rfl rfl (Y.move rfl rfl) ?_
  refine TL.val rfl rfl rfl (Y.maxI (n := 0) rfl rfl rfl) ?_
  refine TL.as (vN (max code 0).toNat) (by (show vI _ = vI _; rw [Int.toNat_of_nonneg (by omega)])) ?_
  refine TL.val rfl rfl rfl (Y.assign rfl rfl) ?_
  refine TL.nil ?_
  refine TQ.next ?_
  refine TC.seq ?_
  refine TC.region ?_
  refine TL.val rfl rfl rfl (by first | exact Y.fieldAddrJ rfl fo58_1 rfl nqq | exact Y.fieldAddr rfl fo58_1 rfl nqq) ?_
  refine TL.val rfl rfl rfl (Y.load rfl sc3 rfl celN) ?_
  refine TL.val rfl rfl rfl (by first | exact Y.fieldAddrJ rfl fo58_2 rfl nqq | exact Y.fieldAddr rfl fo58_2 rfl nqq) ?_
  refine TL.val rfl rfl rfl (Y.loadAgg rfl ag40 rfl (Cels.blk inn (cs := msgC c m f s) (l := (idL f).map v8) (msg_id c m f _)) (by first | rfl | ((try simp only [List.length_map, List.length_set, List.length_replicate]); omega))) ?_
  refine TL.val rfl rfl rfl (Y.move rfl rfl) ?_
  refine TL.val rfl rfl rfl (Y.bin rfl rfl rfl (br_quoN (n := 100) (by omega) (by omega))) ?_
  refine TL.val rfl rfl rfl (Y.conv rfl Try.underlying3 Try.underlying5 rfl (cv_N_8)) ?_
  refine TL.val rfl rfl rfl (Y.move rfl rfl) ?_
  refine TL.val rfl rfl rfl (Y.bin rfl rfl rfl (br_remN (n := 100) (by omega))) ?_
  refine TL.val rfl rfl rfl (Y.conv rfl Try.underlying3 Try.underlying5 rfl (cv_N_8)) ?_
  refine TL.eff rfl rfl rfl (X.lit rfl el30 rfl rfl rfl (by decide) rfl) ?_
  rintro _ _ ⟨g17, rfl, rfl⟩
  refine TL.val rfl rfl rfl (Y.buildS (cells := #[v16 9, .slice (some ⟨g17, 0, none⟩) 4 4]) rfl rfl pl76 zc76 (by kernel_rfl)) ?_
  refine TL.eff rfl rfl rfl (X.litA (bytes := 0) (z := .nilFunc) rfl Try.underlying56 zs76 rfl rfl rfl (by decide) (by decide) (by decide) rfl (cells := [v16 9, .slice (some ⟨g17, 0, none⟩) 4 4]) rfl rfl) ?_
  rintro _ _ ⟨g19, rfl, rfl⟩
  refine TL.val rfl rfl rfl (Y.buildS (cells := msgC 3 m f (.slice (some ⟨g19, 0, none⟩) 1 1)) rfl rfl pl58 zc58 (by kernel_rfl)) ?_
  refine TL.eff0 rfl rfl (X.storeAll rfl (by kernel_rfl) (msgC_size 3 m f _) rfl rfl (msg_one 3 m f _ _ _) pul rfl) ?_
  rintro _ _ rfl
  refine TL.nil ?_
  refine TQ.next ?_
  refine TC.ret ?_
  refine TQ.retE (resC rfl ag58 rfl (Cels.all (cs := msgC 3 m f (.slice (some ⟨g19, 0, none⟩) 1 1)) inn) rfl) (⟨_, (some ⟨g17, 0, none⟩, 4), rfl, rfl⟩) ?_
  exact ((Ent.mkAt (t := 9) (a := some ⟨g17, 0, none⟩) (n := 4) (cap := 4) (bs := failB code) pul rfl).trans (Ent.trans Ent.rdss0 (Ent.trans (Ent.addEl (ys := ([] : List At)) pul pul) (Ent.trans (Ent.mkOwn (l := [failM code (some ⟨g17, 0, none⟩, 4)]) (a := some ⟨g19, 0, none⟩) (n := 1) (cap := 1) pul pul rfl rfl rfl) ett))))
end stun
end Go.Proofs.Ytpmplnkempcmjaa

/- Strings: put together, and turned into bytes. No program is named. -/
namespace Go.Proofs.Ytpmplnkempcmjaa
set_option linter.unusedVariables false
set_option linter.unusedSimpArgs false
open Go.RowKit
/-- the bytes of a string -/
def bl (t : ByteArray) : List UInt8 := t.data.toList
theorem bl_len (t : ByteArray) : (bl t).length = t.size := rfl
theorem bl_app (s t : ByteArray) : bl (s ++ t) = bl s ++ bl t := by simp [bl]
theorem bl_bstr (l : List UInt8) : bl (bstr l) = l := rfl
theorem bl_inj {s t : ByteArray} (h : bl s = bl t) : s = t := by
  obtain ⟨x⟩ := s
  obtain ⟨y⟩ := t
  congr 1
  exact Array.toList_inj.1 h
section
variable {P : Program} {N : Nat} {F : FE} {As L : List SA} {o : Oper} {x y : Operand}
theorem Y.addB {t yt : Nat} {a b : ByteArray} (ho : o.op = .binOp .add t x y yt) (hx : evO F x = some (.string a)) (hy : evO F y = some (.string b)) (h : a.size + b.size ≤ 9223372036854775807) : Yld P N o F As (.string (a ++ b)) := fun c w ha _ => by
  unfold execOp; rw [ho]
  replace hx := ha.eval hx
  replace hy := ha.eval hy
  generalize c.eval = ρ at hx hy ⊢
  have hm : (a.size : Int) + b.size ≤ 9223372036854775807 := by omega
  simp [hx, hy, eqGuard, binOp, Op.stringOp, hm, go_sem]
theorem St.madeR {w w' : World} (h : St L w) {sz : Nat} {v : Value} {n : Nat} {cs : List Value} (ho : Rd w' sz v n cs) (hf : Fr [] w w') (hn : ∀ k ∈ own v, w.heap.size ≤ k ∧ k < w'.heap.size) : St (SA.rds sz v n cs :: L) w' :=
  h.emp.upd fun O R _ _ => ⟨fun _ => False, fun k => k ∈ own v, ⟨fun _ _ h => h, ho⟩, fun k hk => hk.elim, fun k hk => .inr (.inr (hn k hk)), Ag.fr hf (by simp)⟩
/-- '[]byte(s)' -/
theorem X.strB {s d e : Nat} {t : ByteArray} (ho : o.op = .convert s d x) (hs : P.underlying s = some .string) (hd : P.underlying d = some (.slice e)) (he : P.underlying e = some (.int .u8)) (hx : evO F x = some (.string t)) (hm : t.size ≤ maxLen) :
    Eff P N o F L (fun v L' => ∃ g c, v = .slice (some ⟨g, 0, none⟩) t.size c ∧ L' = SA.rds 1 (.slice (some ⟨g, 0, none⟩) t.size c) t.size ((bl t).map v8) :: L) := by
  refine ⟨by rw [ho]; simp, fun Y a w ha hw K Q hK => ?_⟩
  unfold Oper.wp execOp; rw [ho]
  replace hx := ha.eval hx
  generalize a.eval = ρ at hx ⊢
  simp only [hx, Sem.run_bind, Go.Lib.run_convert_string_bytes w s d e t hs hd he, Result.andThen_ok, Sem.run_pure]
  have hsz := Go.Lib.bytesWorld_size w e t
  have hf : Fr [] w (Go.Lib.bytesWorld w e t) := ⟨rfl, rfl, rfl, by omega, fun k hk _ => Go.Lib.bytesWorld_at_old w e t k hk⟩
  refine hK _ _ _ ⟨_, _, rfl, rfl⟩ (St.up1 (hw.madeR ?_ hf fun k hk => ?_))
  · refine ⟨by simp [bl_len], one8, some ⟨w.heap.size, 0, none⟩, _, rfl, grownCap_ge w t.size 0 e, grownCap_le_maxLen w t.size 0 e hm, by simp, fun b hb j u hj => ?_⟩
    cases hb
    have hj' : j < t.size := by
      have := (List.getElem?_eq_some_iff.1 hj).1
      simpa [bl_len] using this
    rw [Addr.add_lit, Nat.zero_add, Go.Lib.bytesWorld_cell w e t j hj', ← hj, getML (d := (0 : UInt8)) (by rw [bl_len]; exact hj')]; rfl
  · simp [own] at hk
    subst hk
    omega
theorem Cels.pre {p : Addr} {l l' : List Value} (h : Cels As p l) (hp : l' <+: l) : Cels As p l' := fun w hw j u hj => by
  obtain ⟨t, rfl⟩ := hp
  refine h w hw j u ?_
  rw [List.getElem?_append_left (List.getElem?_eq_some_iff.1 hj).1]; exact hj
end
theorem Ent.eqOwn {e sz n : Nat} {v : Value} {cs cs' : List Value} {L L0 : List SA} (h : Pull (SA.owns e sz v n cs) L L0) (he : cs = cs') : Ent L (SA.owns e sz v n cs' :: L0) := he ▸ h.ent
/-- one cell of an element, written over -/
theorem Dat.cs_setE {α : Type} [Dat α] {l : List α} {i j : Nat} {x y : α} {v : Value} (hx : l[i]? = some x) (hj : j < Dat.sz α) (h : (Dat.c x).set j v = Dat.c y) : (Dat.cs l).set (i * Dat.sz α + j) v = Dat.cs (l.set i y) := by
  have hi := (List.getElem?_eq_some_iff.1 hx).1
  have hk : (Dat.cs (l.take i)).length = i * Dat.sz α := by rw [Dat.cs_len, List.length_take, Nat.min_eq_left (by omega)]
  have e0 : Dat.cs l = Dat.cs (l.take i) ++ (Dat.c x ++ Dat.cs (l.drop (i + 1))) := by
    conv => lhs; rw [split_at hx]
    rw [Dat.cs_app, show x :: l.drop (i + 1) = [x] ++ l.drop (i + 1) from rfl, Dat.cs_app, Dat.cs_one]
  have e1 : Dat.cs (l.set i y) = Dat.cs (l.take i) ++ (Dat.c y ++ Dat.cs (l.drop (i + 1))) := by
    rw [set_at _ hx, Dat.cs_app, show y :: l.drop (i + 1) = [y] ++ l.drop (i + 1) from rfl, Dat.cs_app, Dat.cs_one]
  rw [e0, e1, List.set_append_right _ _ (by omega), show i * Dat.sz α + j - (Dat.cs (l.take i)).length = j by omega, List.set_append_left _ _ (by rw [Dat.len]; exact hj), h]
end Go.Proofs.Ytpmplnkempcmjaa

/- ice: what an agent knows; the small functions, walked. -/
namespace Go.Proofs.Ytpmplnkempcmjaa
set_option linter.unusedVariables false
set_option linter.unusedSimpArgs false
open Go.RowKit
namespace ice
namespace FxIceA
set_option maxRecDepth 100000
theorem ag28 : Program.aggN Try.prog 28 = some 2 := by kernel_rfl
theorem fo55_2 : Program.fieldOff Try.prog 55 2 = some 2 := by kernel_rfl
theorem fo70_0 : Program.fieldOff Try.prog 70 0 = some 0 := by kernel_rfl
theorem fo70_2 : Program.fieldOff Try.prog 70 2 = some 3 := by kernel_rfl
theorem pl28 : Program.places Try.prog 28 = some [(0, 1), (1, 1)] := by kernel_rfl
theorem sc4 : Program.isSc Try.prog 4 = true := by kernel_rfl
theorem sc48 : Program.isSc Try.prog 48 = true := by kernel_rfl
theorem sl48 : Program.slI Try.prog 48 = some 4 := by kernel_rfl
theorem sz28 : (Try.prog.info? 28).map (·.size) = some 2 := by kernel_rfl
theorem zc28 : Program.zeroC Try.prog 28 = some #[.int .u32 0, .int .u16 0] := by kernel_rfl
end FxIceA
open FxIceA
abbrev Ad := UInt32 × UInt16
/-- a pair: its address, when it was checked last, whether it is nominated -/
abbrev Pr := Ad × Int × Bool
def agC (na : Option Addr) (nn nc : Nat) (pa : Option Addr) (pn pc : Nat) (la : Option Addr) (ln lc : Nat) (clk : Int) : Array Value := #[.slice na nn nc, .slice pa pn pc, .slice la ln lc, vI clk]
def ix (l : List Pr) : Option Nat := l.findIdx? fun x => x.2.2
def po (a : Option Addr) : Option Nat → Option Addr
  | none => none
  | some k => a.map fun p => p.add (k * 4)
theorem po_some (g off k : Nat) : po (some ⟨g, off, none⟩) (some k) = some ⟨g, off + k * 4, none⟩ := by simp [po, Addr.add_lit]
theorem po_none (a : Option Addr) : po a none = none := rfl
theorem ix_some {l : List Pr} {k : Nat} {x : Pr} (h : ∀ y ∈ l.take k, y.2.2 = false) (hx : l[k]? = some x) (hp : x.2.2 = true) : ix l = some k := by
  obtain ⟨hk, hxe⟩ := List.getElem?_eq_some_iff.1 hx
  rw [ix, List.findIdx?_eq_some_iff_getElem]
  refine ⟨hk, by rw [hxe]; exact hp, fun j hj => ?_⟩
  have := h (l[j]) (by rw [List.mem_take_iff_getElem]; exact ⟨j, by omega, rfl⟩)
  simp [this]
theorem ix_none {l : List Pr} (h : ∀ y ∈ l, y.2.2 = false) : ix l = none := by rw [ix, List.findIdx?_eq_none_iff]; exact h
theorem ix_at {l : List Pr} {k : Nat} (h : ix l = some k) : ∃ x, l[k]? = some x ∧ x.2.2 = true := by
  obtain ⟨hi, hp, -⟩ := List.findIdx?_eq_some_iff_getElem.1 h
  exact ⟨l[k], by simp [hi], hp⟩
theorem no_next {l : List Pr} {i : Nat} {x : Pr} (h : ∀ y ∈ l.take i, y.2.2 = false) (hx : l[i]? = some x) (hq : x.2.2 = false) : ∀ y ∈ l.take (i + 1), y.2.2 = false := by
  intro y hy
  rw [List.take_add_one, hx] at hy
  rcases List.mem_append.1 hy with hy | hy
  · exact h y hy
  · simp at hy; subst hy; exact hq
def sl (l : List Pr) : Option Pr := (ix l).bind fun k => l[k]?
def sa (l : List Pr) : Ad := ((sl l).map fun x => x.1).getD (0, 0)
def fr (l : List Pr) (clk now : Int) : Bool := match sl l with
  | some x => decide (max now clk - x.2.1 ≤ 30)
  | none => false
section
variable (b : Nat) (na : Option Addr) (nn nc : Nat) (pa : Option Addr) (pn pc : Nat) (la : Option Addr) (lc : Nat) (l : List Pr) (clk : Int)
set_option maxHeartbeats 1000000 in
--REG (*rostrum/ice.Agent).nominated : _ _ ⟨rfl, rfl⟩ => (ice.nominated_fn _ _ _ _ _ _ _ _ _ _ _ _)
theorem nominated_fn (L : List SA) :
    Fn Try.prog 28 [pt b 0] (SA.blk b (agC na nn nc pa pn pc la l.length lc clk) 55 :: SA.owns 70 4 (.slice la l.length lc) l.length (Dat.cs l) :: L)
      (fun v L' => v = .pointer (po la (ix l)) ∧ L' = SA.blk b (agC na nn nc pa pn pc la l.length lc clk) 55 :: SA.owns 70 4 (.slice la l.length lc) l.length (Dat.cs l) :: L) := by
  refine Fn.of (N := 29) Try.func28 rfl rfl ?_
  intro Xh
  refine TC.know (owns_cap (a := la) inn) ?_
  rintro ⟨hc1, hc2, -⟩
  simp only [maxLen] at hc2
  refine TC.seq ?_
  refine TC.region ?_
  refine TL.val rfl rfl rfl (Y.assign rfl rfl) ?_
  refine TL.nil ?_
  refine TQ.next ?_
  refine TC.seq ?_
  refine TC.seq ?_
  refine TC.region ?_
  refine TL.val rfl rfl rfl (Y.move rfl rfl) ?_
  refine TL.val rfl rfl rfl (by first | exact Y.eqNilP rfl Try.underlying24 rfl rfl | exact Y.eqNil0 rfl Try.underlying24 rfl rfl) ?_
  refine TL.nil ?_
  refine TQ.next ?_
  refine TC.cond_f rfl ?_
  refine TC.skip ?_
  refine TQ.next ?_
  refine TC.seq ?_
  refine TC.seq ?_
  refine TC.region ?_
  refine TL.val rfl rfl rfl (Y.move rfl rfl) ?_
  refine TL.val rfl rfl rfl (Y.nilCheck rfl rfl) ?_
  refine TL.val rfl rfl rfl (by first | exact Y.fieldAddrJ rfl fo55_2 rfl nqq | exact Y.fieldAddr rfl fo55_2 rfl nqq) ?_
  refine TL.val rfl rfl rfl (Y.load rfl sc48 rfl celD) ?_
  refine TL.as (.slice la l.length lc) (by rfl) ?_
  refine TL.val rfl rfl rfl (Y.len rfl Try.underlying48 rfl) ?_
  refine TL.val rfl rfl rfl (Y.move rfl rfl) ?_
  refine TL.nil ?_
  refine TQ.next ?_
  refine TC.block ?_
  refine TC.loopF (ι := Nat) [2] (fun k => k ≤ l.length ∧ ∀ y ∈ l.take k, y.2.2 = false) (fun k => [(11, some (vN k))]) (fun k => []) (fun k => l.length - k) (0) (⟨by omega, by simp⟩) ⟨rfl, trivial⟩ Pulls.nil ?_
  rintro k ⟨hk, hq⟩ F' L' rfl hL'
  simp only [List.cons_append, List.nil_append] at hL'
  subst hL'
  refine TC.seq ?_
  refine TC.region ?_
  refine TL.val rfl rfl rfl (Y.bin rfl rfl rfl (br_ltN)) ?_
  refine TL.nil ?_
  refine TQ.next ?_
  refine TC.seq ?_
  refine TC.cond rfl (fun c1 => ?_) (fun c1 => ?_)
  · try simp only [decide_eq_true_eq, decide_eq_false_iff_not, Bool.not_eq_true', Bool.not_eq_false', Bool.and_eq_true, Bool.or_eq_true, Nat.not_lt, Nat.not_le, beq_iff_eq, bne_iff_ne] at c1
    refine TC.skip ?_
    refine TQ.next ?_
    refine TC.seq ?_
    refine TC.block ?_
    refine TC.seq ?_
    refine TC.region ?_
    refine TL.val rfl rfl rfl (Y.move rfl rfl) ?_
    refine TL.val rfl rfl rfl (Y.assign rfl rfl) ?_
    refine TL.nil ?_
    refine TQ.next ?_
    refine TC.seq ?_
    obtain ⟨⟨ad, last, nm⟩, hx, hxm⟩ := getS (l := l) (i := k) (by omega)
    refine TC.know (owns_some (a := la) inn (by omega)) ?_
    rintro ⟨g, off, rfl⟩
    refine TC.region ?_
    refine TL.val rfl rfl rfl (Y.move rfl rfl) ?_
    refine TL.val rfl rfl rfl (Y.nilCheck rfl rfl) ?_
    refine TL.val rfl rfl rfl (by first | exact Y.fieldAddrJ rfl fo55_2 rfl nqq | exact Y.fieldAddr rfl fo55_2 rfl nqq) ?_
    refine TL.val rfl rfl rfl (Y.load rfl sc48 rfl celD) ?_
    refine TL.as (.slice (some ⟨g, off, none⟩) l.length lc) (by rfl) ?_
    refine TL.val rfl rfl rfl (Y.move rfl rfl) ?_
    refine TL.val rfl rfl rfl (by first | exact Y.indexSlB rfl sl48 rfl rfl (by omega) nqq | exact Y.indexSl rfl sl48 rfl rfl (by omega) nqq) ?_
    refine TL.val rfl rfl rfl (by first | exact Y.fieldAddrJ rfl fo70_2 rfl nqq | exact Y.fieldAddr rfl fo70_2 rfl nqq) ?_
    refine TL.val rfl rfl rfl (Y.load rfl sc4 rfl celD) ?_
    refine TL.as (.bool nm) (by rfl) ?_
    refine TL.nil ?_
    refine TQ.next ?_
    refine TC.cond rfl (fun c2 => ?_) (fun c2 => ?_)
    · try simp only [decide_eq_true_eq, decide_eq_false_iff_not, Bool.not_eq_true', Bool.not_eq_false', Bool.and_eq_true, Bool.or_eq_true, Nat.not_lt, Nat.not_le, beq_iff_eq, bne_iff_ne] at c2
      have hi := ix_some hq hx c2
      refine TC.seq ?_
      refine TC.region ?_
      refine TL.val rfl rfl rfl (Y.move rfl rfl) ?_
      refine TL.val rfl rfl rfl (Y.nilCheck rfl rfl) ?_
      refine TL.val rfl rfl rfl (by first | exact Y.fieldAddrJ rfl fo55_2 rfl nqq | exact Y.fieldAddr rfl fo55_2 rfl nqq) ?_
      refine TL.val rfl rfl rfl (Y.load rfl sc48 rfl celD) ?_
      refine TL.as (.slice (some ⟨g, off, none⟩) l.length lc) (by rfl) ?_
      refine TL.val rfl rfl rfl (Y.move rfl rfl) ?_
      refine TL.val rfl rfl rfl (by first | exact Y.indexSlB rfl sl48 rfl rfl (by omega) nqq | exact Y.indexSl rfl sl48 rfl rfl (by omega) nqq) ?_
      refine TL.val rfl rfl rfl (Y.assign rfl rfl) ?_
      refine TL.nil ?_
      refine TQ.next ?_
      refine TC.ret ?_
      refine TQ.block_ret ?_
      refine TQ.then_ret ?_
      refine TQ.then_ret ?_
      refine TQ.block_ret ?_
      refine TQ.then_ret ?_
      refine TQ.retE (res1 rfl rfl) (⟨by rw [hi]; first | rfl | rw [po_some], rfl⟩) ?_
      exact ett
    · try simp only [decide_eq_true_eq, decide_eq_false_iff_not, Bool.not_eq_true', Bool.not_eq_false', Bool.and_eq_true, Bool.or_eq_true, Nat.not_lt, Nat.not_le, beq_iff_eq, bne_iff_ne] at c2
      refine TC.skip ?_
      refine TQ.block_normal ?_
      refine TQ.next ?_
      refine TC.region ?_
      refine TL.val rfl rfl rfl (Y.bin rfl rfl rfl (br_addN (n := 1) (by omega))) ?_
      refine TL.val rfl rfl rfl (Y.move rfl rfl) ?_
      refine TL.nil ?_
      refine TQ.loopF (k + 1) (⟨by omega, no_next hq hx c2⟩) (by omega) ⟨rfl, trivial⟩ (by (repeat first | apply Grow.refl | apply Grow.step | apply Grow.app)) ?_ ?_ ?_
      · kernel_rfl
      · rfl
      · simp only [List.cons_append, List.nil_append]
        exact ett
  · try simp only [decide_eq_true_eq, decide_eq_false_iff_not, Bool.not_eq_true', Bool.not_eq_false', Bool.and_eq_true, Bool.or_eq_true, Nat.not_lt, Nat.not_le, beq_iff_eq, bne_iff_ne] at c1
    refine TC.exit ?_
    refine TQ.then_exit ?_
    refine TQ.then_exit ?_
    refine TQ.block_exit ?_
    refine TQ.next ?_
    refine TC.seq ?_
    obtain rfl : k = l.length := by omega
    rw [List.take_length] at hq
    have hi := ix_none hq
    refine TC.region ?_
    refine TL.val rfl rfl rfl (Y.assign rfl rfl) ?_
    refine TL.nil ?_
    refine TQ.next ?_
    refine TC.ret ?_
    refine TQ.retE (res1 rfl rfl) (⟨by rw [hi]; first | rfl | rw [po_some], rfl⟩) ?_
    exact ett
theorem nominated_nil (L : List SA) : Fn Try.prog 28 [.pointer none] L (fun v L' => v = .pointer none ∧ L' = L) := by
  refine Fn.of (N := 29) Try.func28 rfl rfl ?_
  intro Xh
  refine TC.seq ?_
  refine TC.region ?_
  refine TL.val rfl rfl rfl (Y.assign rfl rfl) ?_
  refine TL.nil ?_
  refine TQ.next ?_
  refine TC.seq ?_
  refine TC.seq ?_
  refine TC.region ?_
  refine TL.val rfl rfl rfl (Y.move rfl rfl) ?_
  refine TL.val rfl rfl rfl (by first | exact Y.eqNilP rfl Try.underlying24 rfl rfl | exact Y.eqNil0 rfl Try.underlying24 rfl rfl) ?_
  refine TL.nil ?_
  refine TQ.next ?_
  refine TC.cond_t rfl ?_
  refine TC.seq ?_
  refine TC.region ?_
  refine TL.val rfl rfl rfl (Y.assign rfl rfl) ?_
  refine TL.nil ?_
  refine TQ.next ?_
  refine TC.ret ?_
  refine TQ.then_ret ?_
  refine TQ.retE (res1 rfl rfl) (⟨rfl, rfl⟩) ?_
  exact ett
theorem Selected_no (h : ix l = none) (L : List SA) :
    Fn Try.prog 13 [pt b 0] (SA.blk b (agC na nn nc pa pn pc la l.length lc clk) 55 :: SA.owns 70 4 (.slice la l.length lc) l.length (Dat.cs l) :: L)
      (fun v L' => v = .tuple #[.agg #[v32 0, v16 0], .bool false] ∧ L' = SA.blk b (agC na nn nc pa pn pc la l.length lc clk) 55 :: SA.owns 70 4 (.slice la l.length lc) l.length (Dat.cs l) :: L) := by
  refine Fn.of (N := 14) Try.func13 rfl rfl ?_
  intro Xh
  refine TC.seq ?_
  refine TC.region ?_
  refine TL.eff rfl rfl rfl (X.alloc rfl zc28) ?_
  rintro _ _ ⟨b2, rfl, rfl⟩
  refine TL.val rfl rfl rfl (Y.assign rfl rfl) ?_
  refine TL.nil ?_
  refine TQ.next ?_
  refine TC.seq ?_
  refine TC.seq ?_
  refine TC.region ?_
  refine TL.val rfl rfl rfl (Y.move rfl rfl) ?_
  refine TL.eff rfl rfl rfl (X.call rfl Try.func28 (by kernel_rfl) rfl rfl (Fn.preE (by repeat first | (with_reducible apply Ent.refl) | (apply Ent.cons; case h => first | (with_reducible (repeat first | apply Pull.here | apply Pull.there); done) | (repeat first | apply Pull.here | apply Pull.there))) (ice.nominated_fn _ _ _ _ _ _ _ _ _ _ _ _))) ?_
  rintro _ _ ⟨rfl, rfl⟩
  rw [h, show po la none = none from rfl]
  refine TL.val rfl rfl rfl (Y.assign rfl rfl) ?_
  refine TL.nil ?_
  refine TQ.next ?_
  refine TC.seq ?_
  refine TC.region ?_
  refine TL.val rfl rfl rfl (Y.move rfl rfl) ?_
  refine TL.val rfl rfl rfl (by first | exact Y.neNilP rfl Try.underlying81 rfl rfl | exact Y.neNil0 rfl Try.underlying81 rfl rfl) ?_
  refine TL.nil ?_
  refine TQ.next ?_
  refine TC.cond_f rfl ?_
  refine TC.skip ?_
  refine TQ.next ?_
  refine TC.seq ?_
  refine TC.region ?_
  refine TL.val rfl rfl rfl (Y.buildS (cells := #[v32 0, v16 0]) rfl rfl pl28 zc28 (by kernel_rfl)) ?_
  refine TL.eff0 rfl rfl (by first | exact X.storeAll rfl sz28 (by rfl) rfl rfl (allOne (by rfl)) pul (by rfl) | exact X.storeAll rfl sz28 szz rfl rfl (by simp [Value.oneCell']) pul szz | exact X.storeAgg rfl sz28 szz rfl rfl (by simp [Value.oneCell']) pul szz (writeM (by ((try simp only [List.length_set, List.length_map, List.length_append, List.length_replicate]); omega)))) ?_
  rintro _ _ rfl
  refine TL.val rfl rfl rfl (Y.assign rfl rfl) ?_
  refine TL.nil ?_
  refine TQ.next ?_
  refine TC.ret ?_
  refine TQ.retE (resL rfl (Res.agg rfl ag28 (Cels.all inn) (by first | rfl | assumption | omega) (Res.tmp rfl Res.nil))) (⟨rfl, rfl⟩) ?_
  exact ett
theorem Selected_yes (g off k : Nat) (hla : la = some ⟨g, off, none⟩) (h : ix l = some k) (x : Pr) (hx : l[k]? = some x) (L : List SA) :
    Fn Try.prog 13 [pt b 0] (SA.blk b (agC na nn nc pa pn pc la l.length lc clk) 55 :: SA.owns 70 4 (.slice la l.length lc) l.length (Dat.cs l) :: L)
      (fun v L' => v = .tuple #[.agg #[v32 x.1.1, v16 x.1.2], .bool true] ∧ L' = SA.blk b (agC na nn nc pa pn pc la l.length lc clk) 55 :: SA.owns 70 4 (.slice la l.length lc) l.length (Dat.cs l) :: L) := by
  subst hla
  obtain ⟨⟨ip, port⟩, last, nm⟩ := x
  refine Fn.of (N := 14) Try.func13 rfl rfl ?_
  intro Xh
  refine TC.seq ?_
  refine TC.region ?_
  refine TL.eff rfl rfl rfl (X.alloc rfl zc28) ?_
  rintro _ _ ⟨b2, rfl, rfl⟩
  refine TL.val rfl rfl rfl (Y.assign rfl rfl) ?_
  refine TL.nil ?_
  refine TQ.next ?_
  refine TC.seq ?_
  refine TC.seq ?_
  refine TC.region ?_
  refine TL.val rfl rfl rfl (Y.move rfl rfl) ?_
  refine TL.eff rfl rfl rfl (X.call rfl Try.func28 (by kernel_rfl) rfl rfl (Fn.preE (by repeat first | (with_reducible apply Ent.refl) | (apply Ent.cons; case h => first | (with_reducible (repeat first | apply Pull.here | apply Pull.there); done) | (repeat first | apply Pull.here | apply Pull.there))) (ice.nominated_fn _ _ _ _ _ _ _ _ _ _ _ _))) ?_
  rintro _ _ ⟨rfl, rfl⟩
  rw [h, po_some]
  refine TL.val rfl rfl rfl (Y.assign rfl rfl) ?_
  refine TL.nil ?_
  refine TQ.next ?_
  refine TC.seq ?_
  refine TC.region ?_
  refine TL.val rfl rfl rfl (Y.move rfl rfl) ?_
  refine TL.val rfl rfl rfl (by first | exact Y.neNilP rfl Try.underlying81 rfl rfl | exact Y.neNil0 rfl Try.underlying81 rfl rfl) ?_
  refine TL.nil ?_
  refine TQ.next ?_
  refine TC.cond_t rfl ?_
  refine TC.seq ?_
  refine TC.region ?_
  refine TL.val rfl rfl rfl (Y.move rfl rfl) ?_
  refine TL.val rfl rfl rfl (Y.nilCheck rfl rfl) ?_
  refine TL.val rfl rfl rfl (by first | exact Y.fieldAddrJ rfl fo70_0 rfl nqq | exact Y.fieldAddr rfl fo70_0 rfl nqq) ?_
  refine TL.as (pt g (off + k * 4)) (by rfl) ?_
  refine TL.val rfl rfl rfl (Y.loadAgg rfl ag28 rfl (Cels.pre (Cels.at (A := SA.owns 70 4 (.slice (some ⟨g, off, none⟩) l.length lc) l.length (Dat.cs l)) Reads.owns inn hx) (l' := [v32 ip, v16 port]) ⟨_, rfl⟩) (by first | rfl | ((try simp only [List.length_map, List.length_set, List.length_replicate]); omega))) ?_
  refine TL.as (.agg #[v32 ip, v16 port]) (by rfl) ?_
  refine TL.eff0 rfl rfl (by first | exact X.storeAll rfl sz28 (by rfl) rfl rfl (allOne (by rfl)) pul (by rfl) | exact X.storeAll rfl sz28 szz rfl rfl (by simp [Value.oneCell']) pul szz | exact X.storeAgg rfl sz28 szz rfl rfl (by simp [Value.oneCell']) pul szz (writeM (by ((try simp only [List.length_set, List.length_map, List.length_append, List.length_replicate]); omega)))) ?_
  rintro _ _ rfl
  refine TL.val rfl rfl rfl (Y.assign rfl rfl) ?_
  refine TL.nil ?_
  refine TQ.next ?_
  refine TC.ret ?_
  refine TQ.then_ret ?_
  refine TQ.retE (resL rfl (Res.agg rfl ag28 (Cels.all inn) (by first | rfl | assumption | omega) (Res.tmp rfl Res.nil))) (⟨rfl, rfl⟩) ?_
  exact ett
end
end ice
end Go.Proofs.Ytpmplnkempcmjaa

/- ice: more of the small functions, walked. -/
namespace Go.Proofs.Ytpmplnkempcmjaa
set_option linter.unusedVariables false
set_option linter.unusedSimpArgs false
open Go.RowKit
namespace ice
namespace FxIceF
set_option maxRecDepth 100000
theorem ag28 : Program.aggN Try.prog 28 = some 2 := by kernel_rfl
theorem el48 : Elt Try.prog 48 70 4 24 (.agg #[.int .u32 0, .int .u16 0, .int .i64 0, .bool false]) := ⟨Try.underlying48, by kernel_rfl, rfl, by decide, by simp [Value.cells, Value.oneCell']⟩
theorem fo55_2 : Program.fieldOff Try.prog 55 2 = some 2 := by kernel_rfl
theorem fo55_3 : Program.fieldOff Try.prog 55 3 = some 3 := by kernel_rfl
theorem fo70_1 : Program.fieldOff Try.prog 70 1 = some 2 := by kernel_rfl
theorem pl28 : Program.places Try.prog 28 = some [(0, 1), (1, 1)] := by kernel_rfl
theorem pl55 : Program.places Try.prog 55 = some [(0, 1), (1, 1), (2, 1), (3, 1)] := by kernel_rfl
theorem sc2 : Program.isSc Try.prog 2 = true := by kernel_rfl
theorem sc48 : Program.isSc Try.prog 48 = true := by kernel_rfl
theorem sz28 : (Try.prog.info? 28).map (·.size) = some 2 := by kernel_rfl
theorem zc28 : Program.zeroC Try.prog 28 = some #[.int .u32 0, .int .u16 0] := by kernel_rfl
theorem zc55 : Program.zeroC Try.prog 55 = some #[.slice none 0 0, .slice none 0 0, .slice none 0 0, .int .i64 0] := by kernel_rfl
theorem zs70 : ((Try.prog.info? 70).bind fun i => i.zero.map fun z => (i.size, z.cells.size)) = some (4, 4) := by kernel_rfl
end FxIceF
open FxIceF
theorem sa_some {l : List Pr} {k : Nat} {x : Pr} (h : ix l = some k) (hx : l[k]? = some x) : sa l = x.1 := by
  rw [sa, sl, h, Option.bind_some, hx]; rfl
theorem sa_none {l : List Pr} (h : ix l = none) : sa l = (0, 0) := by rw [sa, sl, h]; rfl
theorem fr_some {l : List Pr} {k : Nat} {x : Pr} {clk now : Int} (h : ix l = some k) (hx : l[k]? = some x) : fr l clk now = decide (max now clk - x.2.1 ≤ 30) := by
  rw [fr, sl, h, Option.bind_some, hx]
theorem fr_none {l : List Pr} {clk now : Int} (h : ix l = none) : fr l clk now = false := by rw [fr, sl, h]; rfl
section
variable (b : Nat) (na : Option Addr) (nn nc : Nat) (pa : Option Addr) (pn pc : Nat) (la : Option Addr) (lc : Nat) (l : List Pr) (clk : Int)
theorem know_la {A : SA} {e : Nat} {P : Program} {f : FuncId} {args : List Value} {R : Value → List SA → Prop} {L : List SA} (hl : 0 < l.length)
    (h : ∀ g off, la = some ⟨g, off, none⟩ → Fn P f args (A :: SA.owns e 4 (.slice la l.length lc) l.length (Dat.cs l) :: L) R) : Fn P f args (A :: SA.owns e 4 (.slice la l.length lc) l.length (Dat.cs l) :: L) R := fun X w hw => by
  obtain ⟨g, off, rfl⟩ := owns_some (L := A :: SA.owns e 4 (.slice la l.length lc) l.length (Dat.cs l) :: L) (.there .here) hl w hw.tl.holds
  exact h g off rfl X w hw
--REG (*rostrum/ice.Agent).Selected : _ _ ⟨rfl, rfl⟩ => (ice.Selected_fn _ _ _ _ _ _ _ _ _ _ _ _)
theorem Selected_fn (L : List SA) :
    Fn Try.prog 13 [pt b 0] (SA.blk b (agC na nn nc pa pn pc la l.length lc clk) 55 :: SA.owns 70 4 (.slice la l.length lc) l.length (Dat.cs l) :: L)
      (fun v L' => v = .tuple #[.agg #[v32 (sa l).1, v16 (sa l).2], .bool (ix l).isSome] ∧ L' = SA.blk b (agC na nn nc pa pn pc la l.length lc clk) 55 :: SA.owns 70 4 (.slice la l.length lc) l.length (Dat.cs l) :: L) := by
  cases h : ix l with
  | none => rw [sa_none h]; exact Selected_no b na nn nc pa pn pc la lc l clk h L
  | some k =>
    obtain ⟨x, hx, -⟩ := ix_at h
    refine know_la la lc l (by have := (List.getElem?_eq_some_iff.1 hx).1; omega) fun g off hla => ?_
    rw [sa_some h hx]
    exact Selected_yes b na nn nc pa pn pc la lc l clk g off k hla h x hx L
theorem Fresh_no (now : Int) (h : ix l = none) (L : List SA) :
    Fn Try.prog 11 [pt b 0, vI now] (SA.blk b (agC na nn nc pa pn pc la l.length lc clk) 55 :: SA.owns 70 4 (.slice la l.length lc) l.length (Dat.cs l) :: L)
      (fun v L' => v = .bool false ∧ L' = SA.blk b (agC na nn nc pa pn pc la l.length lc clk) 55 :: SA.owns 70 4 (.slice la l.length lc) l.length (Dat.cs l) :: L) := by
  refine Fn.of (N := 24) Try.func11 rfl rfl ?_
  intro Xh
  refine TC.seq ?_
  refine TC.region ?_
  refine TL.val rfl rfl rfl (Y.assign rfl rfl) ?_
  refine TL.nil ?_
  refine TQ.next ?_
  refine TC.seq ?_
  refine TC.region ?_
  refine TL.val rfl rfl rfl (Y.move rfl rfl) ?_
  refine TL.eff rfl rfl rfl (X.call rfl Try.func28 (by kernel_rfl) rfl rfl (Fn.preE (by repeat first | (with_reducible apply Ent.refl) | (apply Ent.cons; case h => first | (with_reducible (repeat first | apply Pull.here | apply Pull.there); done) | (repeat first | apply Pull.here | apply Pull.there))) (ice.nominated_fn _ _ _ _ _ _ _ _ _ _ _ _))) ?_
  rintro _ _ ⟨rfl, rfl⟩
  rw [h, po_none]
  refine TL.val rfl rfl rfl (Y.assign rfl rfl) ?_
  refine TL.nil ?_
  refine TQ.next ?_
  refine TC.seq ?_
  refine TC.draws 17 _ (by kernel_rfl) (by kernel_rfl) (fun _ h => h) ?_
  refine TA.take 0 rfl rfl rfl rfl (by kernel_rfl) (by kernel_rfl) (by kernel_rfl) rfl (by kernel_rfl) (by kernel_rfl) (fun _ _ _ h => h) (Y.move rfl rfl) ?_
  refine TA.take 1 rfl rfl rfl rfl (by kernel_rfl) (by kernel_rfl) (by kernel_rfl) rfl (by kernel_rfl) (by kernel_rfl) (fun _ _ _ h => h) (by first | exact Y.neNilP rfl Try.underlying81 rfl rfl | exact Y.neNil0 rfl Try.underlying81 rfl rfl) ?_
  refine TA.take 2 rfl rfl rfl rfl (by kernel_rfl) (by kernel_rfl) (by kernel_rfl) rfl (by kernel_rfl) (by kernel_rfl) (fun _ _ _ h => h) (Y.move rfl rfl) ?_
  refine TA.not 3 rfl rfl rfl rfl (by kernel_rfl) (by kernel_rfl) (by kernel_rfl) rfl (fun _ _ _ h => h) ?_
  refine TA.not 4 rfl rfl rfl rfl (by kernel_rfl) (by kernel_rfl) (by kernel_rfl) rfl (fun _ _ _ h => h) ?_
  refine TA.not 5 rfl rfl rfl rfl (by kernel_rfl) (by kernel_rfl) (by kernel_rfl) rfl (fun _ _ _ h => h) ?_
  refine TA.not 6 rfl rfl rfl rfl (by kernel_rfl) (by kernel_rfl) (by kernel_rfl) rfl (fun _ _ _ h => h) ?_
  refine TA.not 7 rfl rfl rfl rfl (by kernel_rfl) (by kernel_rfl) (by kernel_rfl) rfl (fun _ _ _ h => h) ?_
  refine TA.not 8 rfl rfl rfl rfl (by kernel_rfl) (by kernel_rfl) (by kernel_rfl) rfl (fun _ _ _ h => h) ?_
  refine TA.not 9 rfl rfl rfl rfl (by kernel_rfl) (by kernel_rfl) (by kernel_rfl) rfl (fun _ _ _ h => h) ?_
  refine TA.not 10 rfl rfl rfl rfl (by kernel_rfl) (by kernel_rfl) (by kernel_rfl) rfl (fun _ _ _ h => h) ?_
  refine TA.not 11 rfl rfl rfl rfl (by kernel_rfl) (by kernel_rfl) (by kernel_rfl) rfl (fun _ _ _ h => h) ?_
  refine TA.not 12 rfl rfl rfl rfl (by kernel_rfl) (by kernel_rfl) (by kernel_rfl) rfl (fun _ _ _ h => h) ?_
  refine TA.not 13 rfl rfl rfl rfl (by kernel_rfl) (by kernel_rfl) (by kernel_rfl) rfl (fun _ _ _ h => h) ?_
  refine TA.not 14 rfl rfl rfl rfl (by kernel_rfl) (by kernel_rfl) (by kernel_rfl) rfl (fun _ _ _ h => h) ?_
  refine TA.take 15 rfl rfl rfl rfl (by kernel_rfl) (by kernel_rfl) (by kernel_rfl) rfl (by kernel_rfl) (by kernel_rfl) (fun _ _ _ h => h) (Y.pick_f rfl rfl rfl) ?_
  refine TA.take 16 rfl rfl rfl rfl (by kernel_rfl) (by kernel_rfl) (by kernel_rfl) rfl (by kernel_rfl) (by kernel_rfl) (fun _ _ _ h => h) (Y.assign rfl rfl) ?_
  refine TA.done (by kernel_rfl) ?_
  refine TQ.next ?_
  refine TC.ret ?_
  refine TQ.retE (res1 rfl rfl) (⟨rfl, rfl⟩) ?_
  exact ett
theorem Fresh_yes (now : Int) (g off k : Nat) (hla : la = some ⟨g, off, none⟩) (h : ix l = some k) (x : Pr) (hx : l[k]? = some x) (h1 : 0 ≤ x.2.1) (h2 : x.2.1 ≤ 9223372036854775807) (h3 : 0 ≤ clk) (h4 : clk ≤ 9223372036854775807) (h5 : now ≤ 9223372036854775807) (L : List SA) :
    Fn Try.prog 11 [pt b 0, vI now] (SA.blk b (agC na nn nc pa pn pc la l.length lc clk) 55 :: SA.owns 70 4 (.slice la l.length lc) l.length (Dat.cs l) :: L)
      (fun v L' => v = .bool (decide (max now clk - x.2.1 ≤ 30)) ∧ L' = SA.blk b (agC na nn nc pa pn pc la l.length lc clk) 55 :: SA.owns 70 4 (.slice la l.length lc) l.length (Dat.cs l) :: L) := by
  subst hla
  obtain ⟨⟨ip, port⟩, last, nm⟩ := x
  simp only at h1 h2
  refine Fn.of (N := 24) Try.func11 rfl rfl ?_
  intro Xh
  refine TC.seq ?_
  refine TC.region ?_
  refine TL.val rfl rfl rfl (Y.assign rfl rfl) ?_
  refine TL.nil ?_
  refine TQ.next ?_
  refine TC.seq ?_
  refine TC.region ?_
  refine TL.val rfl rfl rfl (Y.move rfl rfl) ?_
  refine TL.eff rfl rfl rfl (X.call rfl Try.func28 (by kernel_rfl) rfl rfl (Fn.preE (by repeat first | (with_reducible apply Ent.refl) | (apply Ent.cons; case h => first | (with_reducible (repeat first | apply Pull.here | apply Pull.there); done) | (repeat first | apply Pull.here | apply Pull.there))) (ice.nominated_fn _ _ _ _ _ _ _ _ _ _ _ _))) ?_
  rintro _ _ ⟨rfl, rfl⟩
  rw [h, po_some]
  refine TL.val rfl rfl rfl (Y.assign rfl rfl) ?_
  refine TL.nil ?_
  refine TQ.next ?_
  refine TC.seq ?_
  refine TC.draws 17 _ (by kernel_rfl) (by kernel_rfl) (fun _ h => h) ?_
  refine TA.take 0 rfl rfl rfl rfl (by kernel_rfl) (by kernel_rfl) (by kernel_rfl) rfl (by kernel_rfl) (by kernel_rfl) (fun _ _ _ h => h) (Y.move rfl rfl) ?_
  refine TA.take 1 rfl rfl rfl rfl (by kernel_rfl) (by kernel_rfl) (by kernel_rfl) rfl (by kernel_rfl) (by kernel_rfl) (fun _ _ _ h => h) (by first | exact Y.neNilP rfl Try.underlying81 rfl rfl | exact Y.neNil0 rfl Try.underlying81 rfl rfl) ?_
  refine TA.take 2 rfl rfl rfl rfl (by kernel_rfl) (by kernel_rfl) (by kernel_rfl) rfl (by kernel_rfl) (by kernel_rfl) (fun _ _ _ h => h) (Y.move rfl rfl) ?_
  refine TA.take 3 rfl rfl rfl rfl (by kernel_rfl) (by kernel_rfl) (by kernel_rfl) rfl (by kernel_rfl) (by kernel_rfl) (fun _ _ _ h => h) (Y.move rfl rfl) ?_
  refine TA.take 4 rfl rfl rfl rfl (by kernel_rfl) (by kernel_rfl) (by kernel_rfl) rfl (by kernel_rfl) (by kernel_rfl) (fun _ _ _ h => h) (Y.move rfl rfl) ?_
  refine TA.take 5 rfl rfl rfl rfl (by kernel_rfl) (by kernel_rfl) (by kernel_rfl) rfl (by kernel_rfl) (by kernel_rfl) (fun _ _ _ h => h) (Y.nilCheck rfl rfl) ?_
  refine TA.take 6 rfl rfl rfl rfl (by kernel_rfl) (by kernel_rfl) (by kernel_rfl) rfl (by kernel_rfl) (by kernel_rfl) (fun _ _ _ h => h) (by first | exact Y.fieldAddrJ rfl fo55_3 rfl nqq | exact Y.fieldAddr rfl fo55_3 rfl nqq) ?_
  refine TA.take 7 rfl rfl rfl rfl (by kernel_rfl) (by kernel_rfl) (by kernel_rfl) rfl (by kernel_rfl) (by kernel_rfl) (fun _ _ _ h => h) (Y.load rfl sc2 rfl celN) ?_
  refine TA.as (vI clk) (by rfl) ?_
  refine TA.take 8 rfl rfl rfl rfl (by kernel_rfl) (by kernel_rfl) (by kernel_rfl) rfl (by kernel_rfl) (by kernel_rfl) (fun _ _ _ h => h) (Y.maxI rfl rfl rfl) ?_
  refine TA.take 9 rfl rfl rfl rfl (by kernel_rfl) (by kernel_rfl) (by kernel_rfl) rfl (by kernel_rfl) (by kernel_rfl) (fun _ _ _ h => h) (Y.move rfl rfl) ?_
  refine TA.take 10 rfl rfl rfl rfl (by kernel_rfl) (by kernel_rfl) (by kernel_rfl) rfl (by kernel_rfl) (by kernel_rfl) (fun _ _ _ h => h) (Y.nilCheck rfl rfl) ?_
  refine TA.as (pt g (off + k * 4)) (by rfl) ?_
  refine TA.take 11 rfl rfl rfl rfl (by kernel_rfl) (by kernel_rfl) (by kernel_rfl) rfl (by kernel_rfl) (by kernel_rfl) (fun _ _ _ h => h) (by first | exact Y.fieldAddrJ rfl fo70_1 rfl nqq | exact Y.fieldAddr rfl fo70_1 rfl nqq) ?_
  refine TA.take 12 rfl rfl rfl rfl (by kernel_rfl) (by kernel_rfl) (by kernel_rfl) rfl (by kernel_rfl) (by kernel_rfl) (fun _ _ _ h => h) (Y.load rfl sc2 rfl celN) ?_
  refine TA.as (vI last) (by rfl) ?_
  refine TA.take 13 rfl rfl rfl rfl (by kernel_rfl) (by kernel_rfl) (by kernel_rfl) rfl (by kernel_rfl) (by kernel_rfl) (fun _ _ _ h => h) (Y.bin rfl rfl rfl (br_subI (by omega) (by omega))) ?_
  refine TA.take 14 rfl rfl rfl rfl (by kernel_rfl) (by kernel_rfl) (by kernel_rfl) rfl (by kernel_rfl) (by kernel_rfl) (fun _ _ _ h => h) (Y.bin rfl rfl rfl (br_leI (n := 30))) ?_
  refine TA.take 15 rfl rfl rfl rfl (by kernel_rfl) (by kernel_rfl) (by kernel_rfl) rfl (by kernel_rfl) (by kernel_rfl) (fun _ _ _ h => h) (Y.pick_t rfl rfl rfl) ?_
  refine TA.take 16 rfl rfl rfl rfl (by kernel_rfl) (by kernel_rfl) (by kernel_rfl) rfl (by kernel_rfl) (by kernel_rfl) (fun _ _ _ h => h) (Y.assign rfl rfl) ?_
  refine TA.done (by kernel_rfl) ?_
  refine TQ.next ?_
  refine TC.ret ?_
  refine TQ.retE (res1 rfl rfl) (⟨rfl, rfl⟩) ?_
  exact ett
--REG (*rostrum/ice.Agent).Fresh : _ _ ⟨rfl, rfl⟩ => (ice.Fresh_fn _ _ _ _ _ _ _ _ _ _ _ _ (by assumption) (by omega) (by omega) (by omega) _)
theorem Fresh_fn (now : Int) (hb : ∀ x ∈ l, 0 ≤ x.2.1 ∧ x.2.1 ≤ 9223372036854775807) (h3 : 0 ≤ clk) (h4 : clk ≤ 9223372036854775807) (h5 : now ≤ 9223372036854775807) (L : List SA) :
    Fn Try.prog 11 [pt b 0, vI now] (SA.blk b (agC na nn nc pa pn pc la l.length lc clk) 55 :: SA.owns 70 4 (.slice la l.length lc) l.length (Dat.cs l) :: L)
      (fun v L' => v = .bool (fr l clk now) ∧ L' = SA.blk b (agC na nn nc pa pn pc la l.length lc clk) 55 :: SA.owns 70 4 (.slice la l.length lc) l.length (Dat.cs l) :: L) := by
  cases h : ix l with
  | none => rw [fr_none h]; exact Fresh_no b na nn nc pa pn pc la lc l clk now h L
  | some k =>
    obtain ⟨x, hx, -⟩ := ix_at h
    have hxb := hb x (List.mem_of_getElem? hx)
    refine know_la la lc l (by have := (List.getElem?_eq_some_iff.1 hx).1; omega) fun g off hla => ?_
    rw [fr_some h hx]
    exact Fresh_yes b na nn nc pa pn pc la lc l clk now g off k hla h x hx hxb.1 hxb.2 h3 h4 h5 L
theorem Clone_fn (a : Option Addr) (cap : Nat) (q : List Pr) (hn : q.length * 32 ≤ 140737488355328) (L : List SA) :
    Fn Try.prog 30 [.slice a q.length cap] (SA.owns 70 4 (.slice a q.length cap) q.length (Dat.cs q) :: L) (fun v L' => ∃ a' c', v = .slice a' q.length c' ∧ L' = SA.owns 70 4 (.slice a' q.length c') q.length (Dat.cs q) :: SA.owns 70 4 (.slice a q.length cap) q.length (Dat.cs q) :: L) := by
  refine Fn.of (N := 8) Try.func30 rfl rfl ?_
  intro Xh
  refine TC.know (reads_cap (A := SA.owns 70 4 (.slice a q.length cap) q.length (Dat.cs q)) Reads.owns inn) ?_
  rintro ⟨-, -, -, hnone⟩
  refine TC.seq ?_
  refine TC.region ?_
  refine TL.val rfl rfl rfl (Y.assign rfl rfl) ?_
  refine TL.nil ?_
  refine TQ.next ?_
  refine TC.seq ?_
  refine TC.seq ?_
  refine TC.region ?_
  refine TL.val rfl rfl rfl (Y.move rfl rfl) ?_
  refine TL.val rfl rfl rfl (Y.eqNilS rfl Try.underlying48 rfl rfl) ?_
  refine TL.nil ?_
  refine TQ.next ?_
  refine TC.cond rfl (fun c0 => ?_) (fun c0 => ?_)
  · try simp only [decide_eq_true_eq, decide_eq_false_iff_not, Bool.not_eq_true', Bool.not_eq_false', Bool.and_eq_true, Bool.or_eq_true, Nat.not_lt, Nat.not_le, beq_iff_eq, bne_iff_ne] at c0
    have ha : a = none := by cases a <;> simp_all
    have h0 := hnone ha
    obtain rfl : q = [] := List.eq_nil_of_length_eq_zero h0
    refine TC.to (Ent.nilOwn 70 4) ?_
    refine TC.seq ?_
    refine TC.region ?_
    refine TL.val rfl rfl rfl (Y.assign rfl rfl) ?_
    refine TL.nil ?_
    refine TQ.next ?_
    refine TC.ret ?_
    refine TQ.then_ret ?_
    refine TQ.retE (res1 rfl rfl) (⟨_, _, rfl, rfl⟩) ?_
    exact ett
  · try simp only [decide_eq_true_eq, decide_eq_false_iff_not, Bool.not_eq_true', Bool.not_eq_false', Bool.and_eq_true, Bool.or_eq_true, Nat.not_lt, Nat.not_le, beq_iff_eq, bne_iff_ne] at c0
    refine TC.skip ?_
    refine TQ.next ?_
    refine TC.seq ?_
    refine TC.region ?_
    refine TL.eff rfl rfl rfl (X.litA (bytes := 0) (z := .nilFunc) (cells := []) rfl Try.underlying48 zs70 rfl rfl rfl (by decide) (by decide) (by decide) rfl rfl rfl) ?_
    rintro _ _ ⟨g5, rfl, rfl⟩
    refine TL.val rfl rfl rfl (Y.move rfl rfl) ?_
    refine TL.eff rfl rfl rfl (X.appendS rfl el48 rfl pul rfl (Src.reads (A := SA.owns 70 4 (.slice a q.length cap) q.length (Dat.cs q)) Reads.owns Try.underlying48 inn) (by simp only [maxLen]; omega) (by omega)) ?_
    rintro _ _ ⟨a7, c7, rfl, rfl⟩
    simp only [Nat.zero_add, List.nil_append]
    refine TL.val rfl rfl rfl (Y.assign rfl rfl) ?_
    refine TL.nil ?_
    refine TQ.next ?_
    refine TC.ret ?_
    refine TQ.retE (res1 rfl rfl) (⟨_, _, rfl, rfl⟩) ?_
    exact ett
--REG (*rostrum/ice.Agent).Pairs : _ _ ⟨a{d}, c{d}, rfl, rfl⟩ => (ice.Pairs_fn _ _ _ _ _ _ _ _ _ _ _ (by omega) _)
theorem Pairs_fn (hn : l.length ≤ 1000000) (L : List SA) :
    Fn Try.prog 14 [pt b 0] (SA.blk b (agC na nn nc pa pn pc la l.length lc clk) 55 :: SA.owns 70 4 (.slice la l.length lc) l.length (Dat.cs l) :: L)
      (fun v L' => ∃ a' c', v = .slice a' l.length c' ∧ L' = SA.owns 70 4 (.slice a' l.length c') l.length (Dat.cs l) :: SA.blk b (agC na nn nc pa pn pc la l.length lc clk) 55 :: SA.owns 70 4 (.slice la l.length lc) l.length (Dat.cs l) :: L) := by
  refine Fn.of (N := 10) Try.func14 rfl rfl ?_
  intro Xh
  refine TC.seq ?_
  refine TC.region ?_
  refine TL.val rfl rfl rfl (Y.assign rfl rfl) ?_
  refine TL.nil ?_
  refine TQ.next ?_
  refine TC.seq ?_
  refine TC.seq ?_
  refine TC.region ?_
  refine TL.val rfl rfl rfl (Y.move rfl rfl) ?_
  refine TL.val rfl rfl rfl (by first | exact Y.eqNilP rfl Try.underlying24 rfl rfl | exact Y.eqNil0 rfl Try.underlying24 rfl rfl) ?_
  refine TL.nil ?_
  refine TQ.next ?_
  refine TC.cond_f rfl ?_
  refine TC.skip ?_
  refine TQ.next ?_
  refine TC.seq ?_
  refine TC.region ?_
  refine TL.val rfl rfl rfl (Y.move rfl rfl) ?_
  refine TL.val rfl rfl rfl (Y.nilCheck rfl rfl) ?_
  refine TL.val rfl rfl rfl (by first | exact Y.fieldAddrJ rfl fo55_2 rfl nqq | exact Y.fieldAddr rfl fo55_2 rfl nqq) ?_
  refine TL.val rfl rfl rfl (Y.load rfl sc48 rfl celD) ?_
  refine TL.as (.slice la l.length lc) (by rfl) ?_
  refine TL.eff rfl rfl rfl (X.call rfl Try.func30 (by kernel_rfl) rfl rfl (Fn.preE (by repeat first | (with_reducible apply Ent.refl) | (apply Ent.cons; case h => first | (with_reducible (repeat first | apply Pull.here | apply Pull.there); done) | (repeat first | apply Pull.here | apply Pull.there))) (Clone_fn la lc l (by omega) _))) ?_
  rintro _ _ ⟨ca, cc, rfl, rfl⟩
  refine TL.val rfl rfl rfl (Y.assign rfl rfl) ?_
  refine TL.nil ?_
  refine TQ.next ?_
  refine TC.ret ?_
  refine TQ.retE (res1 rfl rfl) (⟨_, _, rfl, rfl⟩) ?_
  exact ett
end
theorem Selected_nil (L : List SA) : Fn Try.prog 13 [.pointer none] L (fun v L' => v = .tuple #[.agg #[v32 0, v16 0], .bool false] ∧ L' = L) := by
  refine Fn.of (N := 14) Try.func13 rfl rfl ?_
  intro Xh
  refine TC.seq ?_
  refine TC.region ?_
  refine TL.eff rfl rfl rfl (X.alloc rfl zc28) ?_
  rintro _ _ ⟨b2, rfl, rfl⟩
  refine TL.val rfl rfl rfl (Y.assign rfl rfl) ?_
  refine TL.nil ?_
  refine TQ.next ?_
  refine TC.seq ?_
  refine TC.seq ?_
  refine TC.region ?_
  refine TL.val rfl rfl rfl (Y.move rfl rfl) ?_
  refine TL.eff rfl rfl rfl (X.call rfl Try.func28 (by kernel_rfl) rfl rfl (Fn.preE (by repeat first | (with_reducible apply Ent.refl) | (apply Ent.cons; case h => first | (with_reducible (repeat first | apply Pull.here | apply Pull.there); done) | (repeat first | apply Pull.here | apply Pull.there))) (nominated_nil _))) ?_
  rintro _ _ ⟨rfl, rfl⟩
  refine TL.val rfl rfl rfl (Y.assign rfl rfl) ?_
  refine TL.nil ?_
  refine TQ.next ?_
  refine TC.seq ?_
  refine TC.region ?_
  refine TL.val rfl rfl rfl (Y.move rfl rfl) ?_
  refine TL.val rfl rfl rfl (by first | exact Y.neNilP rfl Try.underlying81 rfl rfl | exact Y.neNil0 rfl Try.underlying81 rfl rfl) ?_
  refine TL.nil ?_
  refine TQ.next ?_
  refine TC.cond_f rfl ?_
  refine TC.skip ?_
  refine TQ.next ?_
  refine TC.seq ?_
  refine TC.region ?_
  refine TL.val rfl rfl rfl (Y.buildS (cells := #[v32 0, v16 0]) rfl rfl pl28 zc28 (by kernel_rfl)) ?_
  refine TL.eff0 rfl rfl (by first | exact X.storeAll rfl sz28 (by rfl) rfl rfl (allOne (by rfl)) pul (by rfl) | exact X.storeAll rfl sz28 szz rfl rfl (by simp [Value.oneCell']) pul szz | exact X.storeAgg rfl sz28 szz rfl rfl (by simp [Value.oneCell']) pul szz (writeM (by ((try simp only [List.length_set, List.length_map, List.length_append, List.length_replicate]); omega)))) ?_
  rintro _ _ rfl
  refine TL.val rfl rfl rfl (Y.assign rfl rfl) ?_
  refine TL.nil ?_
  refine TQ.next ?_
  refine TC.ret ?_
  refine TQ.retE (resL rfl (Res.agg rfl ag28 (Cels.all inn) (by first | rfl | assumption | omega) (Res.tmp rfl Res.nil))) (⟨rfl, rfl⟩) ?_
  exact ett
theorem Fresh_nil (now : Int) (L : List SA) : Fn Try.prog 11 [.pointer none, vI now] L (fun v L' => v = .bool false ∧ L' = L) := by
  refine Fn.of (N := 24) Try.func11 rfl rfl ?_
  intro Xh
  refine TC.seq ?_
  refine TC.region ?_
  refine TL.val rfl rfl rfl (Y.assign rfl rfl) ?_
  refine TL.nil ?_
  refine TQ.next ?_
  refine TC.seq ?_
  refine TC.region ?_
  refine TL.val rfl rfl rfl (Y.move rfl rfl) ?_
  refine TL.eff rfl rfl rfl (X.call rfl Try.func28 (by kernel_rfl) rfl rfl (Fn.preE (by repeat first | (with_reducible apply Ent.refl) | (apply Ent.cons; case h => first | (with_reducible (repeat first | apply Pull.here | apply Pull.there); done) | (repeat first | apply Pull.here | apply Pull.there))) (nominated_nil _))) ?_
  rintro _ _ ⟨rfl, rfl⟩
  refine TL.val rfl rfl rfl (Y.assign rfl rfl) ?_
  refine TL.nil ?_
  refine TQ.next ?_
  refine TC.seq ?_
  refine TC.draws 17 _ (by kernel_rfl) (by kernel_rfl) (fun _ h => h) ?_
  refine TA.take 0 rfl rfl rfl rfl (by kernel_rfl) (by kernel_rfl) (by kernel_rfl) rfl (by kernel_rfl) (by kernel_rfl) (fun _ _ _ h => h) (Y.move rfl rfl) ?_
  refine TA.take 1 rfl rfl rfl rfl (by kernel_rfl) (by kernel_rfl) (by kernel_rfl) rfl (by kernel_rfl) (by kernel_rfl) (fun _ _ _ h => h) (by first | exact Y.neNilP rfl Try.underlying81 rfl rfl | exact Y.neNil0 rfl Try.underlying81 rfl rfl) ?_
  refine TA.take 2 rfl rfl rfl rfl (by kernel_rfl) (by kernel_rfl) (by kernel_rfl) rfl (by kernel_rfl) (by kernel_rfl) (fun _ _ _ h => h) (Y.move rfl rfl) ?_
  refine TA.not 3 rfl rfl rfl rfl (by kernel_rfl) (by kernel_rfl) (by kernel_rfl) rfl (fun _ _ _ h => h) ?_
  refine TA.not 4 rfl rfl rfl rfl (by kernel_rfl) (by kernel_rfl) (by kernel_rfl) rfl (fun _ _ _ h => h) ?_
  refine TA.not 5 rfl rfl rfl rfl (by kernel_rfl) (by kernel_rfl) (by kernel_rfl) rfl (fun _ _ _ h => h) ?_
  refine TA.not 6 rfl rfl rfl rfl (by kernel_rfl) (by kernel_rfl) (by kernel_rfl) rfl (fun _ _ _ h => h) ?_
  refine TA.not 7 rfl rfl rfl rfl (by kernel_rfl) (by kernel_rfl) (by kernel_rfl) rfl (fun _ _ _ h => h) ?_
  refine TA.not 8 rfl rfl rfl rfl (by kernel_rfl) (by kernel_rfl) (by kernel_rfl) rfl (fun _ _ _ h => h) ?_
  refine TA.not 9 rfl rfl rfl rfl (by kernel_rfl) (by kernel_rfl) (by kernel_rfl) rfl (fun _ _ _ h => h) ?_
  refine TA.not 10 rfl rfl rfl rfl (by kernel_rfl) (by kernel_rfl) (by kernel_rfl) rfl (fun _ _ _ h => h) ?_
  refine TA.not 11 rfl rfl rfl rfl (by kernel_rfl) (by kernel_rfl) (by kernel_rfl) rfl (fun _ _ _ h => h) ?_
  refine TA.not 12 rfl rfl rfl rfl (by kernel_rfl) (by kernel_rfl) (by kernel_rfl) rfl (fun _ _ _ h => h) ?_
  refine TA.not 13 rfl rfl rfl rfl (by kernel_rfl) (by kernel_rfl) (by kernel_rfl) rfl (fun _ _ _ h => h) ?_
  refine TA.not 14 rfl rfl rfl rfl (by kernel_rfl) (by kernel_rfl) (by kernel_rfl) rfl (fun _ _ _ h => h) ?_
  refine TA.take 15 rfl rfl rfl rfl (by kernel_rfl) (by kernel_rfl) (by kernel_rfl) rfl (by kernel_rfl) (by kernel_rfl) (fun _ _ _ h => h) (Y.pick_f rfl rfl rfl) ?_
  refine TA.take 16 rfl rfl rfl rfl (by kernel_rfl) (by kernel_rfl) (by kernel_rfl) rfl (by kernel_rfl) (by kernel_rfl) (fun _ _ _ h => h) (Y.assign rfl rfl) ?_
  refine TA.done (by kernel_rfl) ?_
  refine TQ.next ?_
  refine TC.ret ?_
  refine TQ.retE (res1 rfl rfl) (⟨rfl, rfl⟩) ?_
  exact ett
theorem Pairs_nil (L : List SA) : Fn Try.prog 14 [.pointer none] L (fun v L' => v = .slice none 0 0 ∧ L' = L) := by
  refine Fn.of (N := 10) Try.func14 rfl rfl ?_
  intro Xh
  refine TC.seq ?_
  refine TC.region ?_
  refine TL.val rfl rfl rfl (Y.assign rfl rfl) ?_
  refine TL.nil ?_
  refine TQ.next ?_
  refine TC.seq ?_
  refine TC.seq ?_
  refine TC.region ?_
  refine TL.val rfl rfl rfl (Y.move rfl rfl) ?_
  refine TL.val rfl rfl rfl (by first | exact Y.eqNilP rfl Try.underlying24 rfl rfl | exact Y.eqNil0 rfl Try.underlying24 rfl rfl) ?_
  refine TL.nil ?_
  refine TQ.next ?_
  refine TC.cond_t rfl ?_
  refine TC.seq ?_
  refine TC.region ?_
  refine TL.val rfl rfl rfl (Y.assign rfl rfl) ?_
  refine TL.nil ?_
  refine TQ.next ?_
  refine TC.ret ?_
  refine TQ.then_ret ?_
  refine TQ.retE (res1 rfl rfl) (⟨rfl, rfl⟩) ?_
  exact ett
def nmB (s : ByteArray) : List UInt8 := bl s ++ [58]
theorem nmB_len (s : ByteArray) : (nmB s).length = s.size + 1 := by simp [nmB, bl_len]
--REG rostrum/ice.New : _ _ ⟨b{d}, na{d}, nc{d}, pa{d}, pc{d}, rfl, rfl⟩ => (ice.New_fn _ _ (by omega) (by omega) _)
theorem New_fn (s p : ByteArray) (hs : s.size ≤ 140737488351232) (hp : p.size ≤ 140737488351232) (L : List SA) :
    Fn Try.prog 8 [.string s, .string p] L (fun v L' => ∃ b na nc pa pc, v = pt b 0 ∧
      L' = SA.blk b (agC na (nmB s).length nc pa (bl p).length pc none 0 0 0) 55 :: SA.owns 70 4 (.slice none 0 0) 0 (Dat.cs ([] : List Pr)) :: SA.rds 1 (.slice na (nmB s).length nc) (nmB s).length ((nmB s).map v8) :: SA.rds 1 (.slice pa (bl p).length pc) (bl p).length ((bl p).map v8) :: L) := by
  refine Fn.of (N := 12) Try.func8 rfl rfl ?_
  intro Xh
  refine TC.seq ?_
  refine TC.region ?_
  refine TL.val rfl rfl rfl (Y.assign rfl rfl) ?_
  refine TL.nil ?_
  refine TQ.next ?_
  refine TC.seq ?_
  refine TC.region ?_
  refine TL.val rfl rfl rfl (Y.move rfl rfl) ?_
  refine TL.val rfl rfl rfl (Y.addB rfl rfl rfl (by show s.size + 1 ≤ _; omega)) ?_
  refine TL.as (.string (s ++ bstr [58])) (by rfl) ?_
  refine TL.eff rfl rfl rfl (X.strB rfl Try.underlying9 Try.underlying30 Try.underlying5 rfl (by rw [ByteArray.size_append]; show s.size + 1 ≤ _; simp only [maxLen]; omega)) ?_
  rintro _ _ ⟨g7, c7, rfl, rfl⟩
  rw [bl_app, bl_bstr, show bl s ++ [58] = nmB s from rfl, show (s ++ bstr [58]).size = (nmB s).length by rw [nmB_len, ByteArray.size_append]; rfl]
  refine TL.val rfl rfl rfl (Y.move rfl rfl) ?_
  refine TL.eff rfl rfl rfl (X.strB rfl Try.underlying9 Try.underlying30 Try.underlying5 rfl (by simp only [maxLen]; omega)) ?_
  rintro _ _ ⟨g9, c9, rfl, rfl⟩
  refine TL.val rfl rfl rfl (Y.buildS (cells := agC (some ⟨g7, 0, none⟩) (nmB s).length c7 (some ⟨g9, 0, none⟩) (bl p).length c9 none 0 0 0) rfl rfl pl55 zc55 (by kernel_rfl)) ?_
  refine TL.eff rfl rfl rfl (X.boxA rfl rfl) ?_
  rintro _ _ ⟨b11, rfl, rfl⟩
  refine TL.val rfl rfl rfl (Y.assign rfl rfl) ?_
  refine TL.nil ?_
  refine TQ.next ?_
  refine TC.ret ?_
  refine TQ.retE (res1 rfl rfl) (⟨b11, some ⟨g7, 0, none⟩, c7, some ⟨g9, 0, none⟩, c9, rfl, rfl⟩) ?_
  exact (Ent.trans (Ent.nilOwn 70 4) ett)
end ice
end Go.Proofs.Ytpmplnkempcmjaa

/- slices.Index and slices.Contains, over uint16. -/
namespace Go.Proofs.Ytpmplnkempcmjaa
set_option linter.unusedVariables false
set_option linter.unusedSimpArgs false
open Go.RowKit
namespace cth
namespace FxContH
set_option maxRecDepth 100000
theorem sc22 : Program.isSc Try.prog 22 = true := by kernel_rfl
theorem sl29 : Program.slI Try.prog 29 = some 1 := by kernel_rfl
end FxContH
open FxContH
abbrev EL := UInt16
abbrev vx (x : EL) : Value := v16 x
theorem Index_fn (A : SA) (a : Option Addr) (n cap : Nat) (l : List EL) (x : EL) (hA : Reads A 1 (.slice a n cap) n (Dat.cs l)) (hn : l.length = n) (L : List SA) :
    Fn Try.prog 61 [.slice a n cap, vx x] (A :: L) (fun v L' => ∃ r : Int, v = vI r ∧ (0 ≤ r ↔ x ∈ l) ∧ L' = A :: L) := by
  subst hn
  refine Fn.of (N := 19) Try.func61 rfl rfl ?_
  intro Xh
  refine TC.know (reads_cap hA inn) ?_
  rintro ⟨hc1, hc2, -, -⟩
  simp only [maxLen] at hc2
  refine TC.seq ?_
  refine TC.region ?_
  refine TL.val rfl rfl rfl (Y.assign rfl rfl) ?_
  refine TL.nil ?_
  refine TQ.next ?_
  refine TC.seq ?_
  refine TC.seq ?_
  refine TC.region ?_
  refine TL.val rfl rfl rfl (Y.move rfl rfl) ?_
  refine TL.val rfl rfl rfl (Y.len rfl Try.underlying29 rfl) ?_
  refine TL.val rfl rfl rfl (Y.move rfl rfl) ?_
  refine TL.nil ?_
  refine TQ.next ?_
  refine TC.block ?_
  refine TC.loopF (ι := Nat) [4] (fun k => k ≤ l.length ∧ x ∉ l.take k) (fun k => [(8, some (vN k))]) (fun k => []) (fun k => l.length - k) (0) (⟨by omega, by simp⟩) ⟨rfl, trivial⟩ Pulls.nil ?_
  rintro k ⟨hk, hq⟩ F' L' rfl hL'
  simp only [List.cons_append, List.nil_append] at hL'
  subst hL'
  refine TC.seq ?_
  refine TC.region ?_
  refine TL.val rfl rfl rfl (Y.bin rfl rfl rfl (br_ltN)) ?_
  refine TL.nil ?_
  refine TQ.next ?_
  refine TC.seq ?_
  refine TC.cond rfl (fun c0 => ?_) (fun c0 => ?_)
  · try simp only [decide_eq_true_eq, decide_eq_false_iff_not, Bool.not_eq_true', Bool.not_eq_false', Bool.and_eq_true, Bool.or_eq_true, Nat.not_lt, Nat.not_le, beq_iff_eq, bne_iff_ne] at c0
    refine TC.skip ?_
    refine TQ.next ?_
    refine TC.seq ?_
    refine TC.block ?_
    refine TC.seq ?_
    refine TC.region ?_
    refine TL.val rfl rfl rfl (Y.move rfl rfl) ?_
    refine TL.val rfl rfl rfl (Y.assign rfl rfl) ?_
    refine TL.nil ?_
    refine TQ.next ?_
    refine TC.seq ?_
    obtain ⟨y, hy, hym⟩ := getS (l := l) (i := k) (by omega)
    refine TC.know (reads_some hA inn (by omega) (by decide)) ?_
    rintro ⟨g, off, rfl⟩
    refine TC.region ?_
    refine TL.val rfl rfl rfl (Y.move rfl rfl) ?_
    refine TL.val rfl rfl rfl (Y.move rfl rfl) ?_
    refine TL.val rfl rfl rfl (Y.move rfl rfl) ?_
    refine TL.val rfl rfl rfl (by first | exact Y.indexSlB rfl sl29 rfl rfl (by omega) nqq | exact Y.indexSl rfl sl29 rfl rfl (by omega) nqq) ?_
    refine TL.val rfl rfl rfl (Y.load rfl sc22 rfl (Cel.atS hA inn hy rfl)) ?_
    refine TL.as (vx y) (by rfl) ?_
    refine TL.val rfl rfl rfl (Y.bin rfl rfl rfl (br_eq16)) ?_
    refine TL.as (.bool (decide (x = y))) (by (first | rfl | (rw [beqB]; done) | (rw [beqB]; rfl))) ?_
    refine TL.nil ?_
    refine TQ.next ?_
    refine TC.cond rfl (fun c1 => ?_) (fun c1 => ?_)
    · try simp only [decide_eq_true_eq, decide_eq_false_iff_not, Bool.not_eq_true', Bool.not_eq_false', Bool.and_eq_true, Bool.or_eq_true, Nat.not_lt, Nat.not_le, beq_iff_eq, bne_iff_ne] at c1
      have hin : x ∈ l := by subst c1; exact hym
      refine TC.seq ?_
      refine TC.region ?_
      refine TL.val rfl rfl rfl (Y.move rfl rfl) ?_
      refine TL.val rfl rfl rfl (Y.assign rfl rfl) ?_
      refine TL.nil ?_
      refine TQ.next ?_
      refine TC.ret ?_
      refine TQ.block_ret ?_
      refine TQ.then_ret ?_
      refine TQ.then_ret ?_
      refine TQ.block_ret ?_
      refine TQ.then_ret ?_
      refine TQ.retE (res1 rfl rfl) ((by first | exact ⟨k, rfl, ⟨fun _ => hin, fun _ => Int.natCast_nonneg k⟩, rfl⟩ | exact ⟨-1, rfl, ⟨fun h => absurd h (by decide), fun h => absurd h hq⟩, rfl⟩)) ?_
      exact ett
    · try simp only [decide_eq_true_eq, decide_eq_false_iff_not, Bool.not_eq_true', Bool.not_eq_false', Bool.and_eq_true, Bool.or_eq_true, Nat.not_lt, Nat.not_le, beq_iff_eq, bne_iff_ne] at c1
      have hnx : x ∉ l.take (k + 1) := by
        rw [List.take_add_one, hy]
        intro hm
        rcases List.mem_append.1 hm with hm | hm
        · exact hq hm
        · simp at hm; exact c1 hm
      refine TC.skip ?_
      refine TQ.block_normal ?_
      refine TQ.next ?_
      refine TC.region ?_
      refine TL.val rfl rfl rfl (Y.bin rfl rfl rfl (br_addN (n := 1) (by omega))) ?_
      refine TL.val rfl rfl rfl (Y.move rfl rfl) ?_
      refine TL.nil ?_
      refine TQ.loopF (k + 1) (⟨by omega, hnx⟩) (by omega) ⟨rfl, trivial⟩ (by (repeat first | apply Grow.refl | apply Grow.step | apply Grow.app)) ?_ ?_ ?_
      · kernel_rfl
      · rfl
      · simp only [List.cons_append, List.nil_append]
        exact ett
  · try simp only [decide_eq_true_eq, decide_eq_false_iff_not, Bool.not_eq_true', Bool.not_eq_false', Bool.and_eq_true, Bool.or_eq_true, Nat.not_lt, Nat.not_le, beq_iff_eq, bne_iff_ne] at c0
    obtain rfl : k = l.length := by omega
    rw [List.take_length] at hq
    refine TC.exit ?_
    refine TQ.then_exit ?_
    refine TQ.then_exit ?_
    refine TQ.block_exit ?_
    refine TQ.next ?_
    refine TC.seq ?_
    refine TC.region ?_
    refine TL.val rfl rfl rfl (Y.assign rfl rfl) ?_
    refine TL.nil ?_
    refine TQ.next ?_
    refine TC.ret ?_
    refine TQ.retE (res1 rfl rfl) ((by first | exact ⟨k, rfl, ⟨fun _ => hin, fun _ => Int.natCast_nonneg k⟩, rfl⟩ | exact ⟨-1, rfl, ⟨fun h => absurd h (by decide), fun h => absurd h hq⟩, rfl⟩)) ?_
    exact ett
theorem Contains_fn (A : SA) (a : Option Addr) (n cap : Nat) (l : List EL) (x : EL) (hA : Reads A 1 (.slice a n cap) n (Dat.cs l)) (hn : l.length = n) (L : List SA) :
    Fn Try.prog 42 [.slice a n cap, vx x] (A :: L) (fun v L' => v = .bool (decide (x ∈ l)) ∧ L' = A :: L) := by
  refine Fn.of (N := 9) Try.func42 rfl rfl ?_
  intro Xh
  refine TC.seq ?_
  refine TC.region ?_
  refine TL.val rfl rfl rfl (Y.assign rfl rfl) ?_
  refine TL.nil ?_
  refine TQ.next ?_
  refine TC.seq ?_
  refine TC.region ?_
  refine TL.val rfl rfl rfl (Y.move rfl rfl) ?_
  refine TL.val rfl rfl rfl (Y.move rfl rfl) ?_
  refine TL.eff rfl rfl rfl (X.call rfl Try.func61 (by kernel_rfl) rfl rfl (Fn.preE (by repeat first | (with_reducible apply Ent.refl) | (apply Ent.cons; case h => first | (with_reducible (repeat first | apply Pull.here | apply Pull.there); done) | (repeat first | apply Pull.here | apply Pull.there))) (Index_fn A a n cap l x hA hn _))) ?_
  rintro _ _ ⟨r7, rfl, hr7, rfl⟩
  refine TL.val rfl rfl rfl (Y.bin rfl rfl rfl (br_geI (n := 0))) ?_
  refine TL.as (.bool (decide (x ∈ l))) (by (rw [decide_eq_decide.2 hr7])) ?_
  refine TL.val rfl rfl rfl (Y.assign rfl rfl) ?_
  refine TL.nil ?_
  refine TQ.next ?_
  refine TC.ret ?_
  refine TQ.retE (res1 rfl rfl) (⟨rfl, rfl⟩) ?_
  exact ett
end cth
end Go.Proofs.Ytpmplnkempcmjaa

/- ice: what is asked of a check, walked. -/
namespace Go.Proofs.Ytpmplnkempcmjaa
set_option linter.unusedVariables false
set_option linter.unusedSimpArgs false
open Go.RowKit
namespace ice
open stun
namespace FxIceK
set_option maxRecDepth 100000
theorem ag58 : Program.aggN Try.prog 58 = some 15 := by kernel_rfl
theorem el29 : Elt Try.prog 29 22 1 2 (.int .u16 0) := ⟨Try.underlying29, by kernel_rfl, rfl, by decide, by simp [Value.cells, Value.oneCell']⟩
theorem fo55_0 : Program.fieldOff Try.prog 55 0 = some 0 := by kernel_rfl
theorem fo55_1 : Program.fieldOff Try.prog 55 1 = some 1 := by kernel_rfl
theorem fo58_3 : Program.fieldOff Try.prog 58 3 = some 14 := by kernel_rfl
theorem fo76_0 : Program.fieldOff Try.prog 76 0 = some 0 := by kernel_rfl
theorem pl65 : Program.places Try.prog 65 = some [(0, 1), (1, 1), (2, 1)] := by kernel_rfl
theorem sc22 : Program.isSc Try.prog 22 = true := by kernel_rfl
theorem sc30 : Program.isSc Try.prog 30 = true := by kernel_rfl
theorem sc56 : Program.isSc Try.prog 56 = true := by kernel_rfl
theorem sz5 : (Try.prog.info? 5).map (·.size) = some 1 := by kernel_rfl
theorem zc58 : Program.zeroC Try.prog 58 = some #[.int .i64 0, .int .i64 0, .int .u8 0, .int .u8 0, .int .u8 0, .int .u8 0, .int .u8 0, .int .u8 0, .int .u8 0, .int .u8 0, .int .u8 0, .int .u8 0, .int .u8 0, .int .u8 0, .slice none 0 0] := by kernel_rfl
theorem zc65 : Program.zeroC Try.prog 65 = some #[.int .i64 0, .bool false, .int .i64 0] := by kernel_rfl
end FxIceK
open FxIceK
theorem HasPrefix_fn (A B : SA) (a : Option Addr) (n cap : Nat) (x : List UInt8) (b : Option Addr) (m cb : Nat) (y : List UInt8) (hA : Reads A 1 (.slice a n cap) n (x.map v8)) (hB : Reads B 1 (.slice b m cb) m (y.map v8)) (hn : x.length = n) (hm : y.length = m) (L : List SA) :
    Fn Try.prog 39 [.slice a n cap, .slice b m cb] (A :: B :: L) (fun v L' => v = .bool (decide (x.take m = y)) ∧ L' = A :: B :: L) := by
  refine Fn.of (N := 18) Try.func39 rfl rfl ?_
  intro Xh
  refine TC.know (reads_cap hA inn) ?_
  rintro ⟨hc1, hc2, -, -⟩
  refine TC.seq ?_
  refine TC.region ?_
  refine TL.val rfl rfl rfl (Y.assign rfl rfl) ?_
  refine TL.nil ?_
  refine TQ.next ?_
  refine TC.seq ?_
  refine TC.region ?_
  refine TL.val rfl rfl rfl (Y.move rfl rfl) ?_
  refine TL.val rfl rfl rfl (Y.len rfl Try.underlying30 rfl) ?_
  refine TL.val rfl rfl rfl (Y.move rfl rfl) ?_
  refine TL.val rfl rfl rfl (Y.len rfl Try.underlying30 rfl) ?_
  refine TL.val rfl rfl rfl (Y.bin rfl rfl rfl (br_geN)) ?_
  refine TL.val rfl rfl rfl (Y.move rfl rfl) ?_
  refine TL.case (fun g1_5 => ?_) (fun g1_5 => ?_)
  · try simp only [decide_eq_true_eq, decide_eq_false_iff_not, Bool.not_eq_true', Bool.not_eq_false', Nat.not_lt, Nat.not_le, beq_iff_eq, bne_iff_ne] at g1_5
    refine TL.valG rfl rfl rfl (Y.move rfl rfl) ?_
    refine TL.valG rfl rfl rfl (Y.move rfl rfl) ?_
    refine TL.valG rfl rfl rfl (Y.len rfl Try.underlying30 rfl) ?_
    refine TL.valG rfl rfl rfl (Y.sliceHi2 rfl Try.underlying30 sz5 rfl rfl (by omega)) ?_
    refine TL.valG rfl rfl rfl (Y.move rfl rfl) ?_
    refine TL.effG rfl rfl rfl (X.call rfl Try.func59 (by kernel_rfl) rfl rfl (Fn.preE (by repeat first | (with_reducible apply Ent.refl) | (apply Ent.cons; case h => first | (with_reducible (repeat first | apply Pull.here | apply Pull.there); done) | (repeat first | apply Pull.here | apply Pull.there))) (Equal_fn A B a m cap (x.take m) b m cb y (hA.head8 (by omega)) hB _))) ?_
    rintro _ _ ⟨rfl, rfl⟩
    refine TL.val rfl rfl rfl (Y.pick_t rfl rfl rfl) ?_
    refine TL.val rfl rfl rfl (Y.assign rfl rfl) ?_
    refine TL.nil ?_
    refine TQ.next ?_
    refine TC.ret ?_
    refine TQ.retE (res1 rfl rfl) (⟨by first | rfl | (rw [decide_eq_false]; intro e; have := congrArg List.length e; rw [List.length_take] at this; omega), rfl⟩) ?_
    exact ett
  · try simp only [decide_eq_true_eq, decide_eq_false_iff_not, Bool.not_eq_true', Bool.not_eq_false', Nat.not_lt, Nat.not_le, beq_iff_eq, bne_iff_ne] at g1_5
    refine TL.not rfl rfl rfl ?_
    refine TL.not rfl rfl rfl ?_
    refine TL.not rfl rfl rfl ?_
    refine TL.not rfl rfl rfl ?_
    refine TL.not rfl rfl rfl ?_
    refine TL.not rfl rfl rfl ?_
    refine TL.val rfl rfl rfl (Y.pick_f rfl rfl rfl) ?_
    refine TL.val rfl rfl rfl (Y.assign rfl rfl) ?_
    refine TL.nil ?_
    refine TQ.next ?_
    refine TC.ret ?_
    refine TQ.retE (res1 rfl rfl) (⟨by first | rfl | (rw [decide_eq_false]; intro e; have := congrArg List.length e; rw [List.length_take] at this; omega), rfl⟩) ?_
    exact ett
/-- the types that a check may have -/
def okT (t : UInt16) : Bool := !(decide (t.toNat < 32768) && !decide (t ∈ [6, 8, 36, 37]))
def badA (e : At) : Bool := !okT e.1
theorem ask1_fn (t : UInt16) (s : Value) (L : List SA) : Fn Try.prog 41 [.agg #[v16 t, s]] L (fun v L' => v = .bool (!okT t) ∧ L' = L) := by
  refine Fn.of (N := 13) Try.func41 rfl rfl ?_
  intro Xh
  refine TC.seq ?_
  refine TC.region ?_
  refine TL.eff rfl rfl rfl (X.boxA rfl rfl) ?_
  rintro _ _ ⟨b1, rfl, rfl⟩
  refine TL.val rfl rfl rfl (Y.assign rfl rfl) ?_
  refine TL.nil ?_
  refine TQ.next ?_
  refine TC.seq ?_
  refine TC.region ?_
  refine TL.val rfl rfl rfl (by first | exact Y.fieldAddrJ rfl fo76_0 rfl nqq | exact Y.fieldAddr rfl fo76_0 rfl nqq) ?_
  refine TL.val rfl rfl rfl (Y.load rfl sc22 rfl cel16) ?_
  refine TL.val rfl rfl rfl (Y.bin rfl rfl rfl (br_ltN (n := 32768))) ?_
  refine TL.val rfl rfl rfl (Y.move rfl rfl) ?_
  refine TL.case (fun g1_3 => ?_) (fun g1_3 => ?_)
  · try simp only [decide_eq_true_eq, decide_eq_false_iff_not, Bool.not_eq_true', Bool.not_eq_false', Nat.not_lt, Nat.not_le, beq_iff_eq, bne_iff_ne] at g1_3
    refine TL.effG rfl rfl rfl (X.lit rfl el29 rfl rfl rfl (by decide) rfl) ?_
    rintro _ _ ⟨g7, rfl, rfl⟩
    refine TL.valG rfl rfl rfl (by first | exact Y.fieldAddrJ rfl fo76_0 rfl nqq | exact Y.fieldAddr rfl fo76_0 rfl nqq) ?_
    refine TL.valG rfl rfl rfl (Y.load rfl sc22 rfl cel16) ?_
    refine TL.effG rfl rfl rfl (X.call rfl Try.func42 (by kernel_rfl) rfl rfl (Fn.preE (by repeat first | (with_reducible apply Ent.refl) | (apply Ent.cons; case h => first | (with_reducible (repeat first | apply Pull.here | apply Pull.there); done) | (repeat first | apply Pull.here | apply Pull.there))) (cth.Contains_fn (SA.owns 22 1 (.slice (some ⟨g7, 0, none⟩) 4 4) 4 [v16 6, v16 8, v16 36, v16 37]) (some ⟨g7, 0, none⟩) 4 4 [6, 8, 36, 37] t Reads.owns rfl _))) ?_
    rintro _ _ ⟨rfl, rfl⟩
    refine TL.valG rfl rfl rfl (Y.not rfl rfl) ?_
    refine TL.val rfl rfl rfl (Y.pick_t rfl rfl rfl) ?_
    refine TL.val rfl rfl rfl (Y.assign rfl rfl) ?_
    refine TL.nil ?_
    refine TQ.next ?_
    refine TC.ret ?_
    refine TQ.retE (res1 rfl rfl) (⟨by unfold okT; simp_all <;> (intro h; omega), rfl⟩) ?_
    exact ett
  · try simp only [decide_eq_true_eq, decide_eq_false_iff_not, Bool.not_eq_true', Bool.not_eq_false', Nat.not_lt, Nat.not_le, beq_iff_eq, bne_iff_ne] at g1_3
    refine TL.not rfl rfl rfl ?_
    refine TL.not rfl rfl rfl ?_
    refine TL.not rfl rfl rfl ?_
    refine TL.not rfl rfl rfl ?_
    refine TL.not rfl rfl rfl ?_
    refine TL.val rfl rfl rfl (Y.pick_f rfl rfl rfl) ?_
    refine TL.val rfl rfl rfl (Y.assign rfl rfl) ?_
    refine TL.nil ?_
    refine TQ.next ?_
    refine TC.ret ?_
    refine TQ.retE (res1 rfl rfl) (⟨by unfold okT; simp_all <;> (intro h; omega), rfl⟩) ?_
    exact ett
theorem ask1_any (x : At) (L : List SA) : Fn Try.prog 41 ([] ++ [.agg (Dat.c x).toArray] ++ []) L (fun v L' => v = .bool (badA x) ∧ L' = L) := ask1_fn x.1 _ L
def goodK (b pw : List UInt8) : Prop := ∃ c m f l, CR b pw c m f l 0
theorem goodK_iff {b pw : List UInt8} {c m : Int} {f : Nat → UInt8} {l : List PA} {e : Nat} (h : CR b pw c m f l e) : goodK b pw ↔ e = 0 := by
  constructor
  · rintro ⟨c', m', f', l', h'⟩; exact (h.one h').2.2.2.2
  · rintro rfl; exact ⟨c, m, f, l, h⟩
/-- all that is asked of a check -/
structure AllOk (name pw b : List UInt8) (ps : List PA) : Prop where
  user : fo (findP ps 6) = true
  tag : fo (findP ps 8) = true
  key : goodK b pw
  head : (fv (findP ps 6)).take name.length = name
  types : ps.any (fun a => !okT a.1) = false
  role : fo (findP ps 32809) = false
  prio : (fv (findP ps 36)).length = 4
theorem bad_any (l : List At) : (l.map pl).any (fun a => !okT a.1) = l.any badA := by rw [List.any_map]; rfl
theorem rv (r code : Nat) (s : Bool) (e : Nat) (h1 : code ≤ 1000) (h2 : e ≠ 0) (T : Nat) (L : List SA) : ∃ r' code' s' e', pt r 0 = pt r' 0 ∧ code' ≤ 1000 ∧ e' ≠ 0 ∧ SA.blk r #[vN code, .bool s, vN e] T :: L = SA.blk r' #[vN code', .bool s', vN e'] T :: L := ⟨r, code, s, e, rfl, h1, h2, rfl⟩
section
variable (ab : Nat) (na : Option Addr) (nc : Nat) (name : List UInt8) (pa : Option Addr) (pc : Nat) (pw : List UInt8) (la : Option Addr) (ln lc : Nat) (clk : Int) (a : Option Addr) (n cap : Nat) (b : List UInt8) (hn : b.length = n) (hr : n ≤ 140737488351232) (hpw : pw.length ≤ 140737488351232)
  (c m : Int) (f : Nat → UInt8) (ta : Option Addr) (tc : Nat) (l : List At) (hb : ∀ x ∈ l, x.2.l.length ≤ 140737488351232)
include hn hr hpw hb
set_option maxHeartbeats 2000000 in
theorem ask_ok (h : AllOk name pw b (l.map pl)) (L : List SA) :
    Fn Try.prog 18 [pt ab 0, .slice a n cap, .agg (msgC c m f (.slice ta l.length tc))] (SA.blk ab (agC na name.length nc pa pw.length pc la ln lc clk) 55 :: SA.rds 1 (.slice na name.length nc) name.length (name.map v8) :: SA.rds 1 (.slice pa pw.length pc) pw.length (pw.map v8) :: SA.rds 1 (.slice a n cap) n (b.map v8) :: SA.dat (⟨ta, tc, l⟩ : Sl At) :: L)
      (fun v L' => v = .pointer none ∧ L' = SA.blk ab (agC na name.length nc pa pw.length pc la ln lc clk) 55 :: SA.rds 1 (.slice na name.length nc) name.length (name.map v8) :: SA.rds 1 (.slice pa pw.length pc) pw.length (pw.map v8) :: SA.rds 1 (.slice a n cap) n (b.map v8) :: SA.dat (⟨ta, tc, l⟩ : Sl At) :: L) := by
  refine Fn.of (N := 80) Try.func18 rfl rfl ?_
  intro Xh
  refine TC.seq ?_
  refine TC.region ?_
  refine TL.eff rfl rfl rfl (X.boxA rfl rfl) ?_
  rintro _ _ ⟨b5, rfl, rfl⟩
  refine TL.val rfl rfl rfl (Y.assign rfl rfl) ?_
  refine TL.nil ?_
  refine TQ.next ?_
  refine TC.seq ?_
  refine TC.region ?_
  refine TL.val rfl rfl rfl (Y.loadAgg rfl ag58 rfl (Cels.all (cs := msgC c m f (.slice ta l.length tc)) inn) (by first | rfl | ((try simp only [List.length_map, List.length_set, List.length_replicate]); omega))) ?_
  refine TL.as (.agg (msgC c m f (.slice ta l.length tc))) (by rfl) ?_
  refine TL.eff rfl rfl rfl (X.call rfl Try.func24 (by kernel_rfl) rfl rfl (Fn.preE (by repeat first | (with_reducible apply Ent.refl) | (apply Ent.cons; case h => first | (with_reducible (repeat first | apply Pull.here | apply Pull.there); done) | (repeat first | apply Pull.here | apply Pull.there))) (Find_fn c m f ta tc l 6 hb _))) ?_
  rintro _ _ ⟨fa19, fc19, rfl, rfl⟩
  refine TL.val rfl rfl rfl (Y.move rfl rfl) ?_
  refine TL.val rfl rfl rfl (Y.extract rfl rfl rfl) ?_
  refine TL.val rfl rfl rfl (Y.extract rfl rfl rfl) ?_
  refine TL.val rfl rfl rfl (Y.assign rfl rfl) ?_
  refine TL.val rfl rfl rfl (Y.assign rfl rfl) ?_
  refine TL.nil ?_
  refine TQ.next ?_
  refine TC.seq ?_
  refine TC.seq ?_
  refine TC.region ?_
  refine TL.val rfl rfl rfl (Y.loadAgg rfl ag58 rfl (Cels.all (cs := msgC c m f (.slice ta l.length tc)) inn) (by first | rfl | ((try simp only [List.length_map, List.length_set, List.length_replicate]); omega))) ?_
  refine TL.as (.agg (msgC c m f (.slice ta l.length tc))) (by rfl) ?_
  refine TL.eff rfl rfl rfl (X.call rfl Try.func24 (by kernel_rfl) rfl rfl (Fn.preE (by repeat first | (with_reducible apply Ent.refl) | (apply Ent.cons; case h => first | (with_reducible (repeat first | apply Pull.here | apply Pull.there); done) | (repeat first | apply Pull.here | apply Pull.there))) (Find_fn c m f ta tc l 8 hb _))) ?_
  rintro _ _ ⟨fa24, fc24, rfl, rfl⟩
  refine TL.val rfl rfl rfl (Y.move rfl rfl) ?_
  refine TL.val rfl rfl rfl (Y.extract rfl rfl rfl) ?_
  refine TL.val rfl rfl rfl (Y.extract rfl rfl rfl) ?_
  refine TL.val rfl rfl rfl (Y.assign rfl rfl) ?_
  refine TL.val rfl rfl rfl (Y.assign rfl rfl) ?_
  refine TL.nil ?_
  refine TQ.next ?_
  refine TC.seq ?_
  refine TC.region ?_
  refine TL.val rfl rfl rfl (Y.move rfl rfl) ?_
  refine TL.val rfl rfl rfl (Y.not rfl rfl) ?_
  refine TL.is false (by rw [h.user]; rfl) ?_
  refine TL.val rfl rfl rfl (Y.move rfl rfl) ?_
  refine TL.valG rfl rfl rfl (Y.move rfl rfl) ?_
  refine TL.valG rfl rfl rfl (Y.not rfl rfl) ?_
  refine TL.is false (by rw [h.tag]; rfl) ?_
  refine TL.val rfl rfl rfl (Y.pick_f rfl rfl rfl) ?_
  refine TL.nil ?_
  refine TQ.next ?_
  refine TC.cond_f rfl ?_
  refine TC.skip ?_
  refine TQ.next ?_
  refine TC.seq ?_
  refine TC.seq ?_
  refine TC.region ?_
  refine TL.val rfl rfl rfl (Y.move rfl rfl) ?_
  refine TL.val rfl rfl rfl (Y.move rfl rfl) ?_
  refine TL.val rfl rfl rfl (Y.nilCheck rfl rfl) ?_
  refine TL.val rfl rfl rfl (by first | exact Y.fieldAddrJ rfl fo55_1 rfl nqq | exact Y.fieldAddr rfl fo55_1 rfl nqq) ?_
  refine TL.val rfl rfl rfl (Y.load rfl sc30 rfl celD) ?_
  refine TL.as (.slice pa pw.length pc) (by rfl) ?_
  refine TL.eff rfl rfl rfl (X.call rfl Try.func38 (by kernel_rfl) rfl rfl (Fn.preE (by repeat first | (with_reducible apply Ent.refl) | (apply Ent.cons; case h => first | (with_reducible (repeat first | apply Pull.here | apply Pull.there); done) | (repeat first | apply Pull.here | apply Pull.there))) (Check_fn a n cap b hn hr pa pw.length pc pw rfl hpw _))) ?_
  rintro _ _ ⟨kc41, km41, kf41, ka41, kcap41, kl41, ke41, rfl, hC41, rfl⟩
  have hgk := goodK_iff hC41
  refine TL.val rfl rfl rfl (Y.move rfl rfl) ?_
  refine TL.val rfl rfl rfl (Y.extract rfl rfl rfl) ?_
  refine TL.val rfl rfl rfl (Y.extract rfl rfl rfl) ?_
  refine TL.eff rfl rfl rfl (X.alloc rfl zc58) ?_
  rintro _ _ ⟨b11, rfl, rfl⟩
  refine TL.eff0 rfl rfl (X.storeAll rfl (by kernel_rfl) (msgC_size _ _ _ _) rfl rfl (msg_one _ _ _ _ _ _) pul rfl) ?_
  rintro _ _ rfl
  refine TL.val rfl rfl rfl (Y.assign rfl rfl) ?_
  refine TL.nil ?_
  refine TQ.next ?_
  refine TC.seq ?_
  refine TC.region ?_
  refine TL.val rfl rfl rfl (Y.move rfl rfl) ?_
  refine TL.val rfl rfl rfl (Y.bin rfl rfl rfl (br_neN (n := 0))) ?_
  refine TL.is false (by rw [hgk.1 h.key]; rfl) ?_
  refine TL.val rfl rfl rfl (Y.move rfl rfl) ?_
  refine TL.valG rfl rfl rfl (Y.move rfl rfl) ?_
  refine TL.valG rfl rfl rfl (Y.move rfl rfl) ?_
  refine TL.valG rfl rfl rfl (Y.nilCheck rfl rfl) ?_
  refine TL.valG rfl rfl rfl (by first | exact Y.fieldAddrJ rfl fo55_0 rfl nqq | exact Y.fieldAddr rfl fo55_0 rfl nqq) ?_
  refine TL.valG rfl rfl rfl (Y.load rfl sc30 rfl celD) ?_
  refine TL.as (.slice na name.length nc) (by rfl) ?_
  refine TL.effG rfl rfl rfl (X.call rfl Try.func39 (by kernel_rfl) rfl rfl (Fn.preE (by repeat first | (with_reducible apply Ent.refl) | (apply Ent.cons; case h => first | (with_reducible (repeat first | apply Pull.here | apply Pull.there); done) | (repeat first | apply Pull.here | apply Pull.there))) (HasPrefix_fn (SA.owns 5 1 (.slice fa19 (fv (findP (l.map pl) 6)).length fc19) (fv (findP (l.map pl) 6)).length ((fv (findP (l.map pl) 6)).map v8)) (SA.rds 1 (.slice na name.length nc) name.length (name.map v8)) _ _ _ (fv (findP (l.map pl) 6)) _ _ _ name Reads.owns Reads.rds rfl rfl _))) ?_
  rintro _ _ ⟨rfl, rfl⟩
  refine TL.valG rfl rfl rfl (Y.not rfl rfl) ?_
  refine TL.is false (by rw [decide_eq_true h.head]; rfl) ?_
  refine TL.val rfl rfl rfl (Y.pick_f rfl rfl rfl) ?_
  refine TL.nil ?_
  refine TQ.next ?_
  refine TC.cond_f rfl ?_
  refine TC.skip ?_
  refine TQ.next ?_
  refine TC.seq ?_
  refine TC.seq ?_
  refine TC.region ?_
  refine TL.val rfl rfl rfl (by first | exact Y.fieldAddrJ rfl fo58_3 rfl nqq | exact Y.fieldAddr rfl fo58_3 rfl nqq) ?_
  refine TL.val rfl rfl rfl (Y.load rfl sc56 rfl celD) ?_
  refine TL.as (.slice ta l.length tc) (by rfl) ?_
  refine TL.eff rfl rfl rfl (X.call rfl Try.func40 (by kernel_rfl) rfl rfl (Fn.preE (by repeat first | (with_reducible apply Ent.refl) | (apply Ent.cons; case h => first | (with_reducible (repeat first | apply Pull.here | apply Pull.there); done) | (repeat first | apply Pull.here | apply Pull.there))) (ixat.ContainsFunc_fn (SA.dat (⟨ta, tc, l⟩ : Sl At)) ta l.length tc l Reads.datM rfl rfl 41 _ [] [] badA _ Try.func41 (by kernel_rfl) rfl (fun x _ => ask1_any x _)))) ?_
  rintro _ _ ⟨rfl, rfl⟩
  refine TL.is false (by rw [← bad_any]; exact h.types) ?_
  refine TL.nil ?_
  refine TQ.next ?_
  refine TC.cond_f rfl ?_
  refine TC.skip ?_
  refine TQ.next ?_
  refine TC.seq ?_
  refine TC.seq ?_
  refine TC.region ?_
  refine TL.val rfl rfl rfl (Y.loadAgg rfl ag58 rfl (Cels.all (cs := msgC c m f (.slice ta l.length tc)) inn) (by first | rfl | ((try simp only [List.length_map, List.length_set, List.length_replicate]); omega))) ?_
  refine TL.as (.agg (msgC c m f (.slice ta l.length tc))) (by rfl) ?_
  refine TL.eff rfl rfl rfl (X.call rfl Try.func24 (by kernel_rfl) rfl rfl (Fn.preE (by repeat first | (with_reducible apply Ent.refl) | (apply Ent.cons; case h => first | (with_reducible (repeat first | apply Pull.here | apply Pull.there); done) | (repeat first | apply Pull.here | apply Pull.there))) (Find_fn c m f ta tc l 32809 hb _))) ?_
  rintro _ _ ⟨fa64, fc64, rfl, rfl⟩
  refine TL.val rfl rfl rfl (Y.move rfl rfl) ?_
  refine TL.val rfl rfl rfl (Y.extract rfl rfl rfl) ?_
  refine TL.val rfl rfl rfl (Y.extract rfl rfl rfl) ?_
  refine TL.is false (by exact h.role) ?_
  refine TL.val rfl rfl rfl (Y.assign rfl rfl) ?_
  refine TL.val rfl rfl rfl (Y.assign rfl rfl) ?_
  refine TL.nil ?_
  refine TQ.next ?_
  refine TC.seq ?_
  refine TC.region ?_
  refine TL.val rfl rfl rfl (Y.move rfl rfl) ?_
  refine TL.nil ?_
  refine TQ.next ?_
  refine TC.cond_f rfl ?_
  refine TC.skip ?_
  refine TQ.next ?_
  refine TC.seq ?_
  refine TC.seq ?_
  refine TC.region ?_
  refine TL.val rfl rfl rfl (Y.loadAgg rfl ag58 rfl (Cels.all (cs := msgC c m f (.slice ta l.length tc)) inn) (by first | rfl | ((try simp only [List.length_map, List.length_set, List.length_replicate]); omega))) ?_
  refine TL.as (.agg (msgC c m f (.slice ta l.length tc))) (by rfl) ?_
  refine TL.eff rfl rfl rfl (X.call rfl Try.func24 (by kernel_rfl) rfl rfl (Fn.preE (by repeat first | (with_reducible apply Ent.refl) | (apply Ent.cons; case h => first | (with_reducible (repeat first | apply Pull.here | apply Pull.there); done) | (repeat first | apply Pull.here | apply Pull.there))) (Find_fn c m f ta tc l 36 hb _))) ?_
  rintro _ _ ⟨fa72, fc72, rfl, rfl⟩
  refine TL.val rfl rfl rfl (Y.move rfl rfl) ?_
  refine TL.val rfl rfl rfl (Y.extract rfl rfl rfl) ?_
  refine TL.val rfl rfl rfl (Y.extract rfl rfl rfl) ?_
  refine TL.val rfl rfl rfl (Y.assign rfl rfl) ?_
  refine TL.val rfl rfl rfl (Y.assign rfl rfl) ?_
  refine TL.nil ?_
  refine TQ.next ?_
  refine TC.seq ?_
  refine TC.region ?_
  refine TL.val rfl rfl rfl (Y.move rfl rfl) ?_
  refine TL.val rfl rfl rfl (Y.len rfl Try.underlying30 rfl) ?_
  refine TL.val rfl rfl rfl (Y.bin rfl rfl rfl (br_neN (n := 4))) ?_
  refine TL.is false (by rw [h.prio]; rfl) ?_
  refine TL.nil ?_
  refine TQ.next ?_
  refine TC.cond_f rfl ?_
  refine TC.skip ?_
  refine TQ.next ?_
  refine TC.seq ?_
  refine TC.region ?_
  refine TL.val rfl rfl rfl (Y.assign rfl rfl) ?_
  refine TL.nil ?_
  refine TQ.next ?_
  refine TC.ret ?_
  refine TQ.retE (res1 rfl rfl) (⟨rfl, rfl⟩) ?_
  exact ett
set_option maxHeartbeats 2000000 in
theorem ask_no (h : ¬ AllOk name pw b (l.map pl)) (L : List SA) :
    Fn Try.prog 18 [pt ab 0, .slice a n cap, .agg (msgC c m f (.slice ta l.length tc))] (SA.blk ab (agC na name.length nc pa pw.length pc la ln lc clk) 55 :: SA.rds 1 (.slice na name.length nc) name.length (name.map v8) :: SA.rds 1 (.slice pa pw.length pc) pw.length (pw.map v8) :: SA.rds 1 (.slice a n cap) n (b.map v8) :: SA.dat (⟨ta, tc, l⟩ : Sl At) :: L)
      (fun v L' => ∃ r code s e, v = pt r 0 ∧ code ≤ 1000 ∧ e ≠ 0 ∧ L' = SA.blk r #[vN code, .bool s, vN e] 65 :: SA.blk ab (agC na name.length nc pa pw.length pc la ln lc clk) 55 :: SA.rds 1 (.slice na name.length nc) name.length (name.map v8) :: SA.rds 1 (.slice pa pw.length pc) pw.length (pw.map v8) :: SA.rds 1 (.slice a n cap) n (b.map v8) :: SA.dat (⟨ta, tc, l⟩ : Sl At) :: L) := by
  refine Fn.of (N := 80) Try.func18 rfl rfl ?_
  intro Xh
  refine TC.seq ?_
  refine TC.region ?_
  refine TL.eff rfl rfl rfl (X.boxA rfl rfl) ?_
  rintro _ _ ⟨b5, rfl, rfl⟩
  refine TL.val rfl rfl rfl (Y.assign rfl rfl) ?_
  refine TL.nil ?_
  refine TQ.next ?_
  refine TC.seq ?_
  refine TC.region ?_
  refine TL.val rfl rfl rfl (Y.loadAgg rfl ag58 rfl (Cels.all (cs := msgC c m f (.slice ta l.length tc)) inn) (by first | rfl | ((try simp only [List.length_map, List.length_set, List.length_replicate]); omega))) ?_
  refine TL.as (.agg (msgC c m f (.slice ta l.length tc))) (by rfl) ?_
  refine TL.eff rfl rfl rfl (X.call rfl Try.func24 (by kernel_rfl) rfl rfl (Fn.preE (by repeat first | (with_reducible apply Ent.refl) | (apply Ent.cons; case h => first | (with_reducible (repeat first | apply Pull.here | apply Pull.there); done) | (repeat first | apply Pull.here | apply Pull.there))) (Find_fn c m f ta tc l 6 hb _))) ?_
  rintro _ _ ⟨fa19, fc19, rfl, rfl⟩
  refine TL.val rfl rfl rfl (Y.move rfl rfl) ?_
  refine TL.val rfl rfl rfl (Y.extract rfl rfl rfl) ?_
  refine TL.val rfl rfl rfl (Y.extract rfl rfl rfl) ?_
  refine TL.val rfl rfl rfl (Y.assign rfl rfl) ?_
  refine TL.val rfl rfl rfl (Y.assign rfl rfl) ?_
  refine TL.nil ?_
  refine TQ.next ?_
  refine TC.seq ?_
  refine TC.seq ?_
  refine TC.region ?_
  refine TL.val rfl rfl rfl (Y.loadAgg rfl ag58 rfl (Cels.all (cs := msgC c m f (.slice ta l.length tc)) inn) (by first | rfl | ((try simp only [List.length_map, List.length_set, List.length_replicate]); omega))) ?_
  refine TL.as (.agg (msgC c m f (.slice ta l.length tc))) (by rfl) ?_
  refine TL.eff rfl rfl rfl (X.call rfl Try.func24 (by kernel_rfl) rfl rfl (Fn.preE (by repeat first | (with_reducible apply Ent.refl) | (apply Ent.cons; case h => first | (with_reducible (repeat first | apply Pull.here | apply Pull.there); done) | (repeat first | apply Pull.here | apply Pull.there))) (Find_fn c m f ta tc l 8 hb _))) ?_
  rintro _ _ ⟨fa24, fc24, rfl, rfl⟩
  refine TL.val rfl rfl rfl (Y.move rfl rfl) ?_
  refine TL.val rfl rfl rfl (Y.extract rfl rfl rfl) ?_
  refine TL.val rfl rfl rfl (Y.extract rfl rfl rfl) ?_
  refine TL.val rfl rfl rfl (Y.assign rfl rfl) ?_
  refine TL.val rfl rfl rfl (Y.assign rfl rfl) ?_
  refine TL.nil ?_
  refine TQ.next ?_
  refine TC.seq ?_
  refine TC.region ?_
  refine TL.val rfl rfl rfl (Y.move rfl rfl) ?_
  refine TL.val rfl rfl rfl (Y.not rfl rfl) ?_
  refine TL.val rfl rfl rfl (Y.move rfl rfl) ?_
  refine TL.case (fun g3_2 => ?_) (fun g3_2 => ?_)
  · try simp only [decide_eq_true_eq, decide_eq_false_iff_not, Bool.not_eq_true', Bool.not_eq_false', Nat.not_lt, Nat.not_le, beq_iff_eq, bne_iff_ne] at g3_2
    refine TL.not rfl rfl rfl ?_
    refine TL.not rfl rfl rfl ?_
    refine TL.val rfl rfl rfl (Y.pick_t rfl rfl rfl) ?_
    refine TL.nil ?_
    refine TQ.next ?_
    refine TC.cond_t rfl ?_
    refine TC.seq ?_
    refine TC.region ?_
    refine TL.val rfl rfl rfl (Y.buildS rfl rfl pl65 zc65 rfl) ?_
    refine TL.eff rfl rfl rfl (X.boxA rfl rfl) ?_
    rintro _ _ ⟨b34, rfl, rfl⟩
    refine TL.val rfl rfl rfl (Y.assign rfl rfl) ?_
    refine TL.nil ?_
    have hrv := rv b34 400 false 4 (by decide) (by decide) 65
    refine TQ.next ?_
    refine TC.ret ?_
    refine TQ.then_ret ?_
    refine TQ.retE (res1 rfl rfl) ((hrv _)) ?_
    exact ett
  · try simp only [decide_eq_true_eq, decide_eq_false_iff_not, Bool.not_eq_true', Bool.not_eq_false', Nat.not_lt, Nat.not_le, beq_iff_eq, bne_iff_ne] at g3_2
    refine TL.valG rfl rfl rfl (Y.move rfl rfl) ?_
    refine TL.valG rfl rfl rfl (Y.not rfl rfl) ?_
    refine TL.val rfl rfl rfl (Y.pick_f rfl rfl rfl) ?_
    refine TL.nil ?_
    refine TQ.next ?_
    refine TC.cond rfl (fun c0 => ?_) (fun c0 => ?_)
    · try simp only [decide_eq_true_eq, decide_eq_false_iff_not, Bool.not_eq_true', Bool.not_eq_false', Bool.and_eq_true, Bool.or_eq_true, Nat.not_lt, Nat.not_le, beq_iff_eq, bne_iff_ne] at c0
      refine TC.seq ?_
      refine TC.region ?_
      refine TL.val rfl rfl rfl (Y.buildS rfl rfl pl65 zc65 rfl) ?_
      refine TL.eff rfl rfl rfl (X.boxA rfl rfl) ?_
      rintro _ _ ⟨b34, rfl, rfl⟩
      refine TL.val rfl rfl rfl (Y.assign rfl rfl) ?_
      refine TL.nil ?_
      have hrv := rv b34 400 false 4 (by decide) (by decide) 65
      refine TQ.next ?_
      refine TC.ret ?_
      refine TQ.then_ret ?_
      refine TQ.retE (res1 rfl rfl) ((hrv _)) ?_
      exact ett
    · try simp only [decide_eq_true_eq, decide_eq_false_iff_not, Bool.not_eq_true', Bool.not_eq_false', Bool.and_eq_true, Bool.or_eq_true, Nat.not_lt, Nat.not_le, beq_iff_eq, bne_iff_ne] at c0
      refine TC.skip ?_
      refine TQ.next ?_
      refine TC.seq ?_
      refine TC.seq ?_
      refine TC.region ?_
      refine TL.val rfl rfl rfl (Y.move rfl rfl) ?_
      refine TL.val rfl rfl rfl (Y.move rfl rfl) ?_
      refine TL.val rfl rfl rfl (Y.nilCheck rfl rfl) ?_
      refine TL.val rfl rfl rfl (by first | exact Y.fieldAddrJ rfl fo55_1 rfl nqq | exact Y.fieldAddr rfl fo55_1 rfl nqq) ?_
      refine TL.val rfl rfl rfl (Y.load rfl sc30 rfl celD) ?_
      refine TL.as (.slice pa pw.length pc) (by rfl) ?_
      refine TL.eff rfl rfl rfl (X.call rfl Try.func38 (by kernel_rfl) rfl rfl (Fn.preE (by repeat first | (with_reducible apply Ent.refl) | (apply Ent.cons; case h => first | (with_reducible (repeat first | apply Pull.here | apply Pull.there); done) | (repeat first | apply Pull.here | apply Pull.there))) (Check_fn a n cap b hn hr pa pw.length pc pw rfl hpw _))) ?_
      rintro _ _ ⟨kc41, km41, kf41, ka41, kcap41, kl41, ke41, rfl, hC41, rfl⟩
      have hgk := goodK_iff hC41
      refine TL.val rfl rfl rfl (Y.move rfl rfl) ?_
      refine TL.val rfl rfl rfl (Y.extract rfl rfl rfl) ?_
      refine TL.val rfl rfl rfl (Y.extract rfl rfl rfl) ?_
      refine TL.eff rfl rfl rfl (X.alloc rfl zc58) ?_
      rintro _ _ ⟨b11, rfl, rfl⟩
      refine TL.eff0 rfl rfl (X.storeAll rfl (by kernel_rfl) (msgC_size _ _ _ _) rfl rfl (msg_one _ _ _ _ _ _) pul rfl) ?_
      rintro _ _ rfl
      refine TL.val rfl rfl rfl (Y.assign rfl rfl) ?_
      refine TL.nil ?_
      refine TQ.next ?_
      refine TC.seq ?_
      refine TC.region ?_
      refine TL.val rfl rfl rfl (Y.move rfl rfl) ?_
      refine TL.val rfl rfl rfl (Y.bin rfl rfl rfl (br_neN (n := 0))) ?_
      refine TL.val rfl rfl rfl (Y.move rfl rfl) ?_
      refine TL.case (fun g6_2 => ?_) (fun g6_2 => ?_)
      · try simp only [decide_eq_true_eq, decide_eq_false_iff_not, Bool.not_eq_true', Bool.not_eq_false', Nat.not_lt, Nat.not_le, beq_iff_eq, bne_iff_ne] at g6_2
        refine TL.not rfl rfl rfl ?_
        refine TL.not rfl rfl rfl ?_
        refine TL.not rfl rfl rfl ?_
        refine TL.not rfl rfl rfl ?_
        refine TL.not rfl rfl rfl ?_
        refine TL.not rfl rfl rfl ?_
        refine TL.not rfl rfl rfl ?_
        refine TL.val rfl rfl rfl (Y.pick_t rfl rfl rfl) ?_
        refine TL.nil ?_
        refine TQ.next ?_
        refine TC.cond_t rfl ?_
        refine TC.seq ?_
        refine TC.region ?_
        refine TL.val rfl rfl rfl (Y.buildS rfl rfl pl65 zc65 rfl) ?_
        refine TL.eff rfl rfl rfl (X.boxA rfl rfl) ?_
        rintro _ _ ⟨b56, rfl, rfl⟩
        refine TL.val rfl rfl rfl (Y.assign rfl rfl) ?_
        refine TL.nil ?_
        have hrv := rv b56 401 false 4 (by decide) (by decide) 65
        refine TQ.next ?_
        refine TC.ret ?_
        refine TQ.then_ret ?_
        refine TQ.retE (res1 rfl rfl) ((hrv _)) ?_
        exact ett
      · try simp only [decide_eq_true_eq, decide_eq_false_iff_not, Bool.not_eq_true', Bool.not_eq_false', Nat.not_lt, Nat.not_le, beq_iff_eq, bne_iff_ne] at g6_2
        refine TL.valG rfl rfl rfl (Y.move rfl rfl) ?_
        refine TL.valG rfl rfl rfl (Y.move rfl rfl) ?_
        refine TL.valG rfl rfl rfl (Y.nilCheck rfl rfl) ?_
        refine TL.valG rfl rfl rfl (by first | exact Y.fieldAddrJ rfl fo55_0 rfl nqq | exact Y.fieldAddr rfl fo55_0 rfl nqq) ?_
        refine TL.valG rfl rfl rfl (Y.load rfl sc30 rfl celD) ?_
        refine TL.as (.slice na name.length nc) (by rfl) ?_
        refine TL.effG rfl rfl rfl (X.call rfl Try.func39 (by kernel_rfl) rfl rfl (Fn.preE (by repeat first | (with_reducible apply Ent.refl) | (apply Ent.cons; case h => first | (with_reducible (repeat first | apply Pull.here | apply Pull.there); done) | (repeat first | apply Pull.here | apply Pull.there))) (HasPrefix_fn (SA.owns 5 1 (.slice fa19 (fv (findP (l.map pl) 6)).length fc19) (fv (findP (l.map pl) 6)).length ((fv (findP (l.map pl) 6)).map v8)) (SA.rds 1 (.slice na name.length nc) name.length (name.map v8)) _ _ _ (fv (findP (l.map pl) 6)) _ _ _ name Reads.owns Reads.rds rfl rfl _))) ?_
        rintro _ _ ⟨rfl, rfl⟩
        refine TL.valG rfl rfl rfl (Y.not rfl rfl) ?_
        refine TL.val rfl rfl rfl (Y.pick_f rfl rfl rfl) ?_
        refine TL.nil ?_
        refine TQ.next ?_
        refine TC.cond rfl (fun c1 => ?_) (fun c1 => ?_)
        · try simp only [decide_eq_true_eq, decide_eq_false_iff_not, Bool.not_eq_true', Bool.not_eq_false', Bool.and_eq_true, Bool.or_eq_true, Nat.not_lt, Nat.not_le, beq_iff_eq, bne_iff_ne] at c1
          refine TC.seq ?_
          refine TC.region ?_
          refine TL.val rfl rfl rfl (Y.buildS rfl rfl pl65 zc65 rfl) ?_
          refine TL.eff rfl rfl rfl (X.boxA rfl rfl) ?_
          rintro _ _ ⟨b56, rfl, rfl⟩
          refine TL.val rfl rfl rfl (Y.assign rfl rfl) ?_
          refine TL.nil ?_
          have hrv := rv b56 401 false 4 (by decide) (by decide) 65
          refine TQ.next ?_
          refine TC.ret ?_
          refine TQ.then_ret ?_
          refine TQ.retE (res1 rfl rfl) ((hrv _)) ?_
          exact ett
        · try simp only [decide_eq_true_eq, decide_eq_false_iff_not, Bool.not_eq_true', Bool.not_eq_false', Bool.and_eq_true, Bool.or_eq_true, Nat.not_lt, Nat.not_le, beq_iff_eq, bne_iff_ne] at c1
          refine TC.skip ?_
          refine TQ.next ?_
          refine TC.seq ?_
          refine TC.seq ?_
          refine TC.region ?_
          refine TL.val rfl rfl rfl (by first | exact Y.fieldAddrJ rfl fo58_3 rfl nqq | exact Y.fieldAddr rfl fo58_3 rfl nqq) ?_
          refine TL.val rfl rfl rfl (Y.load rfl sc56 rfl celD) ?_
          refine TL.as (.slice ta l.length tc) (by rfl) ?_
          refine TL.eff rfl rfl rfl (X.call rfl Try.func40 (by kernel_rfl) rfl rfl (Fn.preE (by repeat first | (with_reducible apply Ent.refl) | (apply Ent.cons; case h => first | (with_reducible (repeat first | apply Pull.here | apply Pull.there); done) | (repeat first | apply Pull.here | apply Pull.there))) (ixat.ContainsFunc_fn (SA.dat (⟨ta, tc, l⟩ : Sl At)) ta l.length tc l Reads.datM rfl rfl 41 _ [] [] badA _ Try.func41 (by kernel_rfl) rfl (fun x _ => ask1_any x _)))) ?_
          rintro _ _ ⟨rfl, rfl⟩
          refine TL.nil ?_
          refine TQ.next ?_
          refine TC.cond rfl (fun c2 => ?_) (fun c2 => ?_)
          · try simp only [decide_eq_true_eq, decide_eq_false_iff_not, Bool.not_eq_true', Bool.not_eq_false', Bool.and_eq_true, Bool.or_eq_true, Nat.not_lt, Nat.not_le, beq_iff_eq, bne_iff_ne] at c2
            refine TC.seq ?_
            refine TC.region ?_
            refine TL.val rfl rfl rfl (Y.buildS rfl rfl pl65 zc65 rfl) ?_
            refine TL.eff rfl rfl rfl (X.boxA rfl rfl) ?_
            rintro _ _ ⟨b61, rfl, rfl⟩
            refine TL.val rfl rfl rfl (Y.assign rfl rfl) ?_
            refine TL.nil ?_
            have hrv := rv b61 420 true 1 (by decide) (by decide) 65
            refine TQ.next ?_
            refine TC.ret ?_
            refine TQ.then_ret ?_
            refine TQ.retE (res1 rfl rfl) ((hrv _)) ?_
            exact ett
          · try simp only [decide_eq_true_eq, decide_eq_false_iff_not, Bool.not_eq_true', Bool.not_eq_false', Bool.and_eq_true, Bool.or_eq_true, Nat.not_lt, Nat.not_le, beq_iff_eq, bne_iff_ne] at c2
            refine TC.skip ?_
            refine TQ.next ?_
            refine TC.seq ?_
            refine TC.seq ?_
            refine TC.region ?_
            refine TL.val rfl rfl rfl (Y.loadAgg rfl ag58 rfl (Cels.all (cs := msgC c m f (.slice ta l.length tc)) inn) (by first | rfl | ((try simp only [List.length_map, List.length_set, List.length_replicate]); omega))) ?_
            refine TL.as (.agg (msgC c m f (.slice ta l.length tc))) (by rfl) ?_
            refine TL.eff rfl rfl rfl (X.call rfl Try.func24 (by kernel_rfl) rfl rfl (Fn.preE (by repeat first | (with_reducible apply Ent.refl) | (apply Ent.cons; case h => first | (with_reducible (repeat first | apply Pull.here | apply Pull.there); done) | (repeat first | apply Pull.here | apply Pull.there))) (Find_fn c m f ta tc l 32809 hb _))) ?_
            rintro _ _ ⟨fa64, fc64, rfl, rfl⟩
            refine TL.val rfl rfl rfl (Y.move rfl rfl) ?_
            refine TL.val rfl rfl rfl (Y.extract rfl rfl rfl) ?_
            refine TL.val rfl rfl rfl (Y.extract rfl rfl rfl) ?_
            refine TL.val rfl rfl rfl (Y.assign rfl rfl) ?_
            refine TL.val rfl rfl rfl (Y.assign rfl rfl) ?_
            refine TL.nil ?_
            refine TQ.next ?_
            refine TC.seq ?_
            refine TC.region ?_
            refine TL.val rfl rfl rfl (Y.move rfl rfl) ?_
            refine TL.nil ?_
            refine TQ.next ?_
            refine TC.cond rfl (fun c3 => ?_) (fun c3 => ?_)
            · try simp only [decide_eq_true_eq, decide_eq_false_iff_not, Bool.not_eq_true', Bool.not_eq_false', Bool.and_eq_true, Bool.or_eq_true, Nat.not_lt, Nat.not_le, beq_iff_eq, bne_iff_ne] at c3
              refine TC.seq ?_
              refine TC.region ?_
              refine TL.val rfl rfl rfl (Y.buildS rfl rfl pl65 zc65 rfl) ?_
              refine TL.eff rfl rfl rfl (X.boxA rfl rfl) ?_
              rintro _ _ ⟨b69, rfl, rfl⟩
              refine TL.val rfl rfl rfl (Y.assign rfl rfl) ?_
              refine TL.nil ?_
              have hrv := rv b69 487 true 1 (by decide) (by decide) 65
              refine TQ.next ?_
              refine TC.ret ?_
              refine TQ.then_ret ?_
              refine TQ.retE (res1 rfl rfl) ((hrv _)) ?_
              exact ett
            · try simp only [decide_eq_true_eq, decide_eq_false_iff_not, Bool.not_eq_true', Bool.not_eq_false', Bool.and_eq_true, Bool.or_eq_true, Nat.not_lt, Nat.not_le, beq_iff_eq, bne_iff_ne] at c3
              refine TC.skip ?_
              refine TQ.next ?_
              refine TC.seq ?_
              refine TC.seq ?_
              refine TC.region ?_
              refine TL.val rfl rfl rfl (Y.loadAgg rfl ag58 rfl (Cels.all (cs := msgC c m f (.slice ta l.length tc)) inn) (by first | rfl | ((try simp only [List.length_map, List.length_set, List.length_replicate]); omega))) ?_
              refine TL.as (.agg (msgC c m f (.slice ta l.length tc))) (by rfl) ?_
              refine TL.eff rfl rfl rfl (X.call rfl Try.func24 (by kernel_rfl) rfl rfl (Fn.preE (by repeat first | (with_reducible apply Ent.refl) | (apply Ent.cons; case h => first | (with_reducible (repeat first | apply Pull.here | apply Pull.there); done) | (repeat first | apply Pull.here | apply Pull.there))) (Find_fn c m f ta tc l 36 hb _))) ?_
              rintro _ _ ⟨fa72, fc72, rfl, rfl⟩
              refine TL.val rfl rfl rfl (Y.move rfl rfl) ?_
              refine TL.val rfl rfl rfl (Y.extract rfl rfl rfl) ?_
              refine TL.val rfl rfl rfl (Y.extract rfl rfl rfl) ?_
              refine TL.val rfl rfl rfl (Y.assign rfl rfl) ?_
              refine TL.val rfl rfl rfl (Y.assign rfl rfl) ?_
              refine TL.nil ?_
              refine TQ.next ?_
              refine TC.seq ?_
              refine TC.region ?_
              refine TL.val rfl rfl rfl (Y.move rfl rfl) ?_
              refine TL.val rfl rfl rfl (Y.len rfl Try.underlying30 rfl) ?_
              refine TL.val rfl rfl rfl (Y.bin rfl rfl rfl (br_neN (n := 4))) ?_
              refine TL.nil ?_
              refine TQ.next ?_
              refine TC.cond rfl (fun c4 => ?_) (fun c4 => ?_)
              · try simp only [decide_eq_true_eq, decide_eq_false_iff_not, Bool.not_eq_true', Bool.not_eq_false', Bool.and_eq_true, Bool.or_eq_true, Nat.not_lt, Nat.not_le, beq_iff_eq, bne_iff_ne] at c4
                refine TC.seq ?_
                refine TC.region ?_
                refine TL.val rfl rfl rfl (Y.buildS rfl rfl pl65 zc65 rfl) ?_
                refine TL.eff rfl rfl rfl (X.boxA rfl rfl) ?_
                rintro _ _ ⟨b79, rfl, rfl⟩
                refine TL.val rfl rfl rfl (Y.assign rfl rfl) ?_
                refine TL.nil ?_
                have hrv := rv b79 400 true 1 (by decide) (by decide) 65
                refine TQ.next ?_
                refine TC.ret ?_
                refine TQ.then_ret ?_
                refine TQ.retE (res1 rfl rfl) ((hrv _)) ?_
                exact ett
              · try simp only [decide_eq_true_eq, decide_eq_false_iff_not, Bool.not_eq_true', Bool.not_eq_false', Bool.and_eq_true, Bool.or_eq_true, Nat.not_lt, Nat.not_le, beq_iff_eq, bne_iff_ne] at c4
                exfalso
                refine h ⟨?_, ?_, hgk.2 ?_, ?_, (bad_any l).trans ?_, ?_, ?_⟩
                all_goals (first | assumption | simp_all) --stop
end
end ice
end Go.Proofs.Ytpmplnkempcmjaa

/- ice: what a check does to the pairs, as plain data. -/
namespace Go.Proofs.Ytpmplnkempcmjaa
set_option linter.unusedVariables false
set_option linter.unusedSimpArgs false
open Go.RowKit
namespace ice
open stun
open r1 (be2)
instance : Inhabited Pr := ⟨((0, 0), 0, false)⟩
def eqA (a : Ad) (p : Pr) : Bool := p.1 == a
def pk (l : List Pr) (a : Ad) : Nat := (l.findIdx? (eqA a)).getD l.length
def pl1 (l : List Pr) (a : Ad) : List Pr := match l.findIdx? (eqA a) with
  | some _ => l
  | none => l ++ [(a, 0, false)]
def setL (l : List Pr) (k : Nat) (t : Int) : List Pr := match l[k]? with
  | some x => l.set k (x.1, t, x.2.2)
  | none => l
def nomU (k i : Nat) (l : List Pr) : List Pr := tab l.length fun j => ((l.getD j default).1, (l.getD j default).2.1, if j < i then decide (j = k) else (l.getD j default).2.2)
def fin (cand : Bool) (k : Nat) (l : List Pr) : List Pr := if cand then nomU k l.length l else l
def upd (l : List Pr) (a : Ad) (clk : Int) (cand : Bool) : List Pr := fin cand (pk l a) (setL (pl1 l a) (pk l a) clk)
theorem pk_lt (l : List Pr) (a : Ad) : pk l a < (pl1 l a).length := by
  unfold pk pl1
  cases h : l.findIdx? (eqA a) with
  | none => simp
  | some k => obtain ⟨hk, -⟩ := List.findIdx?_eq_some_iff_getElem.1 h; simpa using hk
theorem pl1_len (l : List Pr) (a : Ad) : (pl1 l a).length ≤ l.length + 1 := by
  unfold pl1; split <;> simp
theorem setL_len (l : List Pr) (k : Nat) (t : Int) : (setL l k t).length = l.length := by
  unfold setL; split <;> simp
theorem nomU_len (k i : Nat) (l : List Pr) : (nomU k i l).length = l.length := tab_len
theorem fin_len (c : Bool) (k : Nat) (l : List Pr) : (fin c k l).length = l.length := by
  unfold fin; split
  · exact nomU_len _ _ _
  · rfl
theorem cs_clk {l : List Pr} {k : Nat} (t : Int) (hk : k < l.length) : (Dat.cs l).set (k * 4 + 2) (vI t) = Dat.cs (setL l k t) := by
  obtain ⟨x, hx, -⟩ := getS hk
  rw [setL, hx]
  exact Dat.cs_setE hx (show 2 < 4 by decide) rfl
theorem nomU_zero (k : Nat) (l : List Pr) : nomU k 0 l = l := by
  apply List.ext_getElem?
  intro j
  rw [nomU, tab_get]
  split
  · rename_i h; simp [List.getD_eq_getElem?_getD, h]
  · rename_i h; rw [List.getElem?_eq_none (by omega)]
theorem cs_nom {l : List Pr} {k i : Nat} (hi : i < l.length) : (Dat.cs (nomU k i l)).set (i * 4 + 3) (vB (decide (i = k))) = Dat.cs (nomU k (i + 1) l) := by
  have hx : (nomU k i l)[i]? = some ((l.getD i default).1, (l.getD i default).2.1, if i < i then decide (i = k) else (l.getD i default).2.2) := by rw [nomU, tab_get, if_pos hi]
  have h := Dat.cs_setE (v := vB (decide (i = k))) (y := ((l.getD i default).1, (l.getD i default).2.1, decide (i = k))) hx (show 3 < 4 by decide) rfl
  rw [show i * Dat.sz Pr + 3 = i * 4 + 3 from rfl] at h
  rw [h]
  congr 1
  rw [nomU, tab_set, nomU]
  refine tab_congr fun j hj => ?_
  by_cases hji : j = i
  · subst hji; simp
  · rw [if_neg hji]
    congr 2
    by_cases h1 : j < i
    · rw [if_pos h1, if_pos (by omega)]
    · rw [if_neg h1, if_neg (by omega)]
theorem mapB_len (ip : UInt32) (port : UInt16) : (mapB ip port).length = 8 := by simp [mapB, wr.be16_len, wr.be32_len]
theorem resp_some (f : Nat → UInt8) (a : Option Addr) (cap : Nat) (a2 : Option Addr) (c2 : Nat) (ip : UInt32) (port : UInt16) (pw : List UInt8) : ∃ s, (SM 2 1 f ⟨a, cap, [((32 : UInt16), (⟨a2, c2, mapB ip port⟩ : Bs))]⟩).sgn pw = some s ∧ s.length = 64 := by
  obtain ⟨m, hm⟩ : ∃ m, m = SM 2 1 f ⟨a, cap, [((32 : UInt16), (⟨a2, c2, mapB ip port⟩ : Bs))]⟩ := ⟨_, rfl⟩
  have hat : m.attrs = [(32, mapB ip port)] := by rw [hm]; rfl
  have hid : m.id.length = 12 := by rw [hm]; rfl
  have hel : (enc m.attrs).length = 12 := by rw [hat, enc1, encA_eq]; simp [be2, mapB_len, padN]
  have hwl : m.whole.length = 32 := by rw [whole_hd]; simp [hd_len hid, hel]
  have hg : m.good = true := by
    rw [good_iff]
    refine ⟨fun x hx => ?_, by rw [hm]; show (0 : Int) ≤ 2; decide, by rw [hm]; show (2 : Int) ≤ 3; decide, by rw [hm]; show (0 : Int) ≤ 1; decide, by rw [hm]; show (1 : Int) ≤ 4095; decide, by rw [hat]; show 1 ≤ 16; decide⟩
    rw [hat, List.mem_singleton] at hx
    subst hx
    show (mapB ip port).length ≤ 512
    rw [mapB_len]; decide
  have hb : m.build = some m.whole := by rw [SMsg.build, if_pos ⟨hg, by omega⟩]
  rw [← hm]
  refine ⟨_, sgn_some2 (b := m.whole) ?_ hb (by omega), ?_⟩
  · rw [hat]; simp [tagged]
  · rw [fin_eq m pw hid]
    simp [hd_len hid, hel, encA8_len (tagT_len m pw), encA4_len (show (sumC m pw).length = 4 from rfl)]
end ice
end Go.Proofs.Ytpmplnkempcmjaa

/- slices.IndexFunc and ContainsFunc, over rostrum/ice.Pair. -/
namespace Go.Proofs.Ytpmplnkempcmjaa
set_option linter.unusedVariables false
set_option linter.unusedSimpArgs false
open Go.RowKit
namespace ixp
namespace FxIdxP
set_option maxRecDepth 100000
theorem sl48 : Program.slI Try.prog 48 = some 4 := by kernel_rfl
end FxIdxP
open FxIdxP
def idx {α : Type} (p : α → Bool) (l : List α) : Int := match l.findIdx? p with
  | some i => i
  | none => -1
theorem find_take {α : Type} {p : α → Bool} {l : List α} {k : Nat} {x : α} (h : ∀ y ∈ l.take k, p y = false) (hx : l[k]? = some x) (hp : p x = true) : idx p l = k := by
  have e : l.findIdx? p = some k := by
    obtain ⟨hk, hxe⟩ := List.getElem?_eq_some_iff.1 hx
    rw [List.findIdx?_eq_some_iff_getElem]
    refine ⟨hk, by rw [hxe]; exact hp, fun j hj => ?_⟩
    have := h (l[j]) (by rw [List.mem_take_iff_getElem]; exact ⟨j, by omega, rfl⟩)
    simp [this]
  unfold idx; rw [e]
theorem find_none {α : Type} {p : α → Bool} {l : List α} (h : ∀ y ∈ l, p y = false) : idx p l = -1 := by
  have e : l.findIdx? p = none := by rw [List.findIdx?_eq_none_iff]; exact h
  unfold idx; rw [e]
theorem take_all {α : Type} {p : α → Bool} {l : List α} {k : Nat} {x : α} (h : ∀ y ∈ l.take k, p y = false) (hx : l[k]? = some x) (hp : p x = false) : ∀ y ∈ l.take (k + 1), p y = false := by
  intro y hy
  rw [List.take_add_one, hx] at hy
  rcases List.mem_append.1 hy with h1 | h1
  · exact h y h1
  · simp at h1; subst h1; exact hp
set_option maxHeartbeats 1000000 in
theorem IndexFunc_fn {α : Type} [Dat α] (A : SA) (a : Option Addr) (n cap : Nat) (l : List α) (hA : Reads A 4 (.slice a n cap) n (Dat.cs l)) (hn : l.length = n) (hs : Dat.sz α = 4) (pf : FuncId) (pfn : Func) (fs cs : List Value) (p : α → Bool) (L : List SA)
    (hf : Try.prog.funcs[pf]? = some pfn) (hnm : (pfn.name == "runtime.NumGoroutine") = false) (hbd : pfn.body.isNone = false)
    (hp : ∀ x ∈ l, Fn Try.prog pf (fs ++ [.agg (Dat.c x).toArray] ++ cs) (A :: L) (fun v L' => v = .bool (p x) ∧ L' = A :: L)) :
    Fn Try.prog 22 [.slice a n cap, .func (.func pf) fs.toArray cs.toArray] (A :: L) (fun v L' => v = vI (idx p l) ∧ L' = A :: L) := by
  subst hn
  refine Fn.of (N := 19) Try.func22 rfl rfl ?_
  intro Xh
  refine TC.know (reads_cap hA inn) ?_
  rintro ⟨hc1, hc2, -, -⟩
  simp only [maxLen] at hc2
  refine TC.seq ?_
  refine TC.region ?_
  refine TL.val rfl rfl rfl (Y.assign rfl rfl) ?_
  refine TL.nil ?_
  refine TQ.next ?_
  refine TC.seq ?_
  refine TC.seq ?_
  refine TC.region ?_
  refine TL.val rfl rfl rfl (Y.move rfl rfl) ?_
  refine TL.val rfl rfl rfl (Y.len rfl Try.underlying48 rfl) ?_
  refine TL.val rfl rfl rfl (Y.move rfl rfl) ?_
  refine TL.nil ?_
  refine TQ.next ?_
  refine TC.block ?_
  refine TC.loopF (ι := Nat) [4] (fun k => k ≤ l.length ∧ ∀ y ∈ l.take k, p y = false) (fun k => [(8, some (vN k))]) (fun k => []) (fun k => l.length - k) (0) (⟨by omega, by simp⟩) ⟨rfl, trivial⟩ Pulls.nil ?_
  rintro k ⟨hk, hq⟩ F' L' rfl hL'
  simp only [List.cons_append, List.nil_append] at hL'
  subst hL'
  refine TC.seq ?_
  refine TC.region ?_
  refine TL.val rfl rfl rfl (Y.bin rfl rfl rfl (br_ltN)) ?_
  refine TL.nil ?_
  refine TQ.next ?_
  refine TC.seq ?_
  refine TC.cond rfl (fun c0 => ?_) (fun c0 => ?_)
  · try simp only [decide_eq_true_eq, decide_eq_false_iff_not, Bool.not_eq_true', Bool.not_eq_false', Bool.and_eq_true, Bool.or_eq_true, Nat.not_lt, Nat.not_le, beq_iff_eq, bne_iff_ne] at c0
    refine TC.skip ?_
    refine TQ.next ?_
    refine TC.seq ?_
    refine TC.block ?_
    refine TC.seq ?_
    refine TC.region ?_
    refine TL.val rfl rfl rfl (Y.move rfl rfl) ?_
    refine TL.val rfl rfl rfl (Y.assign rfl rfl) ?_
    refine TL.nil ?_
    refine TQ.next ?_
    refine TC.seq ?_
    obtain ⟨x, hx, hxm⟩ := getS (l := l) (i := k) (by omega)
    have hpos : 0 < 4 := by decide
    refine TC.know (reads_some hA inn (by omega) hpos) ?_
    rintro ⟨g, off, rfl⟩
    have hcl : (Dat.c x).length = 4 := by rw [Dat.len]; exact hs
    refine TC.region ?_
    refine TL.val rfl rfl rfl (Y.move rfl rfl) ?_
    refine TL.val rfl rfl rfl (Y.move rfl rfl) ?_
    refine TL.val rfl rfl rfl (Y.move rfl rfl) ?_
    refine TL.val rfl rfl rfl (by first | exact Y.indexSlB rfl sl48 rfl rfl (by omega) nqq | exact Y.indexSl rfl sl48 rfl rfl (by omega) nqq) ?_
    refine TL.val rfl rfl rfl (Y.loadAgg rfl (by kernel_rfl) rfl (Cels.at (g := g) (off := off) hA inn hx hs) hcl) ?_
    refine TL.eff rfl rfl rfl (X.callDyn rfl rfl hf hnm hbd rfl (hp x hxm)) ?_
    rintro _ _ ⟨rfl, rfl⟩
    refine TL.nil ?_
    refine TQ.next ?_
    refine TC.cond rfl (fun c1 => ?_) (fun c1 => ?_)
    · try simp only [decide_eq_true_eq, decide_eq_false_iff_not, Bool.not_eq_true', Bool.not_eq_false', Bool.and_eq_true, Bool.or_eq_true, Nat.not_lt, Nat.not_le, beq_iff_eq, bne_iff_ne] at c1
      have hi := find_take hq hx c1
      refine TC.seq ?_
      refine TC.region ?_
      refine TL.val rfl rfl rfl (Y.move rfl rfl) ?_
      refine TL.val rfl rfl rfl (Y.assign rfl rfl) ?_
      refine TL.nil ?_
      refine TQ.next ?_
      refine TC.ret ?_
      refine TQ.block_ret ?_
      refine TQ.then_ret ?_
      refine TQ.then_ret ?_
      refine TQ.block_ret ?_
      refine TQ.then_ret ?_
      refine TQ.retE (res1 rfl rfl) (⟨by rw [hi], rfl⟩) ?_
      exact ett
    · try simp only [decide_eq_true_eq, decide_eq_false_iff_not, Bool.not_eq_true', Bool.not_eq_false', Bool.and_eq_true, Bool.or_eq_true, Nat.not_lt, Nat.not_le, beq_iff_eq, bne_iff_ne] at c1
      refine TC.skip ?_
      refine TQ.block_normal ?_
      refine TQ.next ?_
      refine TC.region ?_
      refine TL.val rfl rfl rfl (Y.bin rfl rfl rfl (br_addN (n := 1) (by omega))) ?_
      refine TL.val rfl rfl rfl (Y.move rfl rfl) ?_
      refine TL.nil ?_
      refine TQ.loopF (k + 1) (⟨by omega, take_all hq hx c1⟩) (by omega) ⟨rfl, trivial⟩ (by (repeat first | apply Grow.refl | apply Grow.step | apply Grow.app)) ?_ ?_ ?_
      · kernel_rfl
      · rfl
      · simp only [List.cons_append, List.nil_append]
        exact ett
  · try simp only [decide_eq_true_eq, decide_eq_false_iff_not, Bool.not_eq_true', Bool.not_eq_false', Bool.and_eq_true, Bool.or_eq_true, Nat.not_lt, Nat.not_le, beq_iff_eq, bne_iff_ne] at c0
    refine TC.exit ?_
    refine TQ.then_exit ?_
    refine TQ.then_exit ?_
    refine TQ.block_exit ?_
    refine TQ.next ?_
    refine TC.seq ?_
    obtain rfl : k = l.length := by omega
    rw [List.take_length] at hq
    have hi := find_none hq
    refine TC.region ?_
    refine TL.val rfl rfl rfl (Y.assign rfl rfl) ?_
    refine TL.nil ?_
    refine TQ.next ?_
    refine TC.ret ?_
    refine TQ.retE (res1 rfl rfl) (⟨by rw [hi], rfl⟩) ?_
    exact ett
theorem idx_any {α : Type} (p : α → Bool) (l : List α) : decide (0 ≤ idx p l) = l.any p := by
  unfold idx
  cases h : l.findIdx? p with
  | none =>
    have := List.findIdx?_eq_none_iff.1 h
    rw [Bool.eq_iff_iff]
    simp
    exact this
  | some i =>
    obtain ⟨hi, hp, -⟩ := List.findIdx?_eq_some_iff_getElem.1 h
    rw [Bool.eq_iff_iff]
    simp
    exact ⟨l[i], List.getElem_mem hi, hp⟩
end ixp
end Go.Proofs.Ytpmplnkempcmjaa

/- ice: Handle, walked. -/
namespace Go.Proofs.Ytpmplnkempcmjaa
set_option linter.unusedVariables false
set_option linter.unusedSimpArgs false
open Go.RowKit
namespace ice
open stun
namespace FxIceH
set_option maxRecDepth 100000
theorem ag28 : Program.aggN Try.prog 28 = some 2 := by kernel_rfl
theorem ag40 : Program.aggN Try.prog 40 = some 12 := by kernel_rfl
theorem ag58 : Program.aggN Try.prog 58 = some 15 := by kernel_rfl
theorem eg28 : Try.prog.eqGuardType Try.prog.depth 28 = false := by kernel_rfl
theorem el48 : Elt Try.prog 48 70 4 24 (.agg #[.int .u32 0, .int .u16 0, .int .i64 0, .bool false]) := ⟨Try.underlying48, by kernel_rfl, rfl, by decide, by simp [Value.cells, Value.oneCell']⟩
theorem fo55_1 : Program.fieldOff Try.prog 55 1 = some 1 := by kernel_rfl
theorem fo55_2 : Program.fieldOff Try.prog 55 2 = some 2 := by kernel_rfl
theorem fo55_3 : Program.fieldOff Try.prog 55 3 = some 3 := by kernel_rfl
theorem fo58_0 : Program.fieldOff Try.prog 58 0 = some 0 := by kernel_rfl
theorem fo58_1 : Program.fieldOff Try.prog 58 1 = some 1 := by kernel_rfl
theorem fo58_2 : Program.fieldOff Try.prog 58 2 = some 2 := by kernel_rfl
theorem fo65_0 : Program.fieldOff Try.prog 65 0 = some 0 := by kernel_rfl
theorem fo65_1 : Program.fieldOff Try.prog 65 1 = some 1 := by kernel_rfl
theorem fo65_2 : Program.fieldOff Try.prog 65 2 = some 2 := by kernel_rfl
theorem fo70_0 : Program.fieldOff Try.prog 70 0 = some 0 := by kernel_rfl
theorem fo70_1 : Program.fieldOff Try.prog 70 1 = some 2 := by kernel_rfl
theorem fo70_2 : Program.fieldOff Try.prog 70 2 = some 3 := by kernel_rfl
theorem pl58 : Program.places Try.prog 58 = some [(0, 1), (1, 1), (2, 12), (14, 1)] := by kernel_rfl
theorem pl70 : Program.places Try.prog 70 = some [(0, 2), (2, 1), (3, 1)] := by kernel_rfl
theorem pl76 : Program.places Try.prog 76 = some [(0, 1), (1, 1)] := by kernel_rfl
theorem sc2 : Program.isSc Try.prog 2 = true := by kernel_rfl
theorem sc22 : Program.isSc Try.prog 22 = true := by kernel_rfl
theorem sc26 : Program.isSc Try.prog 26 = true := by kernel_rfl
theorem sc3 : Program.isSc Try.prog 3 = true := by kernel_rfl
theorem sc30 : Program.isSc Try.prog 30 = true := by kernel_rfl
theorem sc33 : Program.isSc Try.prog 33 = true := by kernel_rfl
theorem sc4 : Program.isSc Try.prog 4 = true := by kernel_rfl
theorem sc48 : Program.isSc Try.prog 48 = true := by kernel_rfl
theorem sf28 : Try.prog.underlying 28 = some (.struct (Try.prog.fieldsOf 28)) := by kernel_rfl
theorem sl48 : Program.slI Try.prog 48 = some 4 := by kernel_rfl
theorem sn28 : (Try.prog.fieldsOf 28).toList.map (fun f => (f.name == "_", f.type, f.offset)) = [(false, 26, 0), (false, 22, 1)] := by kernel_rfl
theorem sp28 : Try.prog.stoodInHeld 28 = false := by kernel_rfl
theorem zc58 : Program.zeroC Try.prog 58 = some #[.int .i64 0, .int .i64 0, .int .u8 0, .int .u8 0, .int .u8 0, .int .u8 0, .int .u8 0, .int .u8 0, .int .u8 0, .int .u8 0, .int .u8 0, .int .u8 0, .int .u8 0, .int .u8 0, .slice none 0 0] := by kernel_rfl
theorem zc70 : Program.zeroC Try.prog 70 = some #[.int .u32 0, .int .u16 0, .int .i64 0, .bool false] := by kernel_rfl
theorem zc76 : Program.zeroC Try.prog 76 = some #[.int .u16 0, .slice none 0 0] := by kernel_rfl
theorem zs70 : ((Try.prog.info? 70).bind fun i => i.zero.map fun z => (i.size, z.cells.size)) = some (4, 4) := by kernel_rfl
theorem zs76 : ((Try.prog.info? 76).bind fun i => i.zero.map fun z => (i.size, z.cells.size)) = some (2, 2) := by kernel_rfl
end FxIceH
open FxIceH
theorem Handle_nil (s x now : Value) (L : List SA) : Fn Try.prog 9 [.pointer none, s, x, now] L (fun v L' => v = .tuple #[.slice none 0 0, vN 1] ∧ L' = L) := by
  refine Fn.of (N := 166) Try.func9 rfl rfl ?_
  intro Xh
  refine TC.seq ?_
  refine TC.region ?_
  refine TL.eff rfl rfl rfl (X.box rfl rfl rfl) ?_
  rintro _ _ ⟨b6, rfl, rfl⟩
  refine TL.val rfl rfl rfl (Y.assign rfl rfl) ?_
  refine TL.val rfl rfl rfl (Y.assign rfl rfl) ?_
  refine TL.nil ?_
  refine TQ.next ?_
  refine TC.seq ?_
  refine TC.seq ?_
  refine TC.region ?_
  refine TL.val rfl rfl rfl (Y.move rfl rfl) ?_
  refine TL.val rfl rfl rfl (by first | exact Y.eqNilP rfl Try.underlying24 rfl rfl | exact Y.eqNil0 rfl Try.underlying24 rfl rfl) ?_
  refine TL.nil ?_
  refine TQ.next ?_
  refine TC.cond_t rfl ?_
  refine TC.seq ?_
  refine TC.region ?_
  refine TL.val rfl rfl rfl (Y.assign rfl rfl) ?_
  refine TL.val rfl rfl rfl (Y.assign rfl rfl) ?_
  refine TL.nil ?_
  refine TQ.next ?_
  refine TC.ret ?_
  refine TQ.then_ret ?_
  refine TQ.retE (res2 rfl rfl rfl) (⟨rfl, rfl⟩) ?_
  exact ett
theorem eqA_or (ip ip' : UInt32) (port port' : UInt16) : (((ip.toNat : Int) == ip'.toNat) && (((port.toNat : Int) == port'.toNat) && true)) = ((ip, port) == (ip', port')) := by
  rw [Bool.eq_iff_iff]
  simp [← UInt32.toNat_inj, ← UInt16.toNat_inj]
  omega
theorem h1_fn (A : SA) (ip ip' : UInt32) (port port' : UInt16) (last : Int) (nm : Bool) (b6 : Nat) (L : List SA) : Fn Try.prog 23 [.agg #[v32 ip, v16 port, vI last, vB nm], pt b6 0] (A :: SA.blk b6 #[v32 ip', v16 port'] 28 :: L)
    (fun v L' => v = .bool ((ip, port) == (ip', port')) ∧ L' = A :: SA.blk b6 #[v32 ip', v16 port'] 28 :: L) := by
  refine Fn.of (N := 8) Try.func23 rfl rfl ?_
  intro Xh
  refine TC.seq ?_
  refine TC.region ?_
  refine TL.eff rfl rfl rfl (X.boxA rfl rfl) ?_
  rintro _ _ ⟨b2, rfl, rfl⟩
  refine TL.val rfl rfl rfl (Y.assign rfl rfl) ?_
  refine TL.nil ?_
  refine TQ.next ?_
  refine TC.seq ?_
  refine TC.region ?_
  refine TL.val rfl rfl rfl (by first | exact Y.fieldAddrJ rfl fo70_0 rfl nqq | exact Y.fieldAddr rfl fo70_0 rfl nqq) ?_
  refine TL.val rfl rfl rfl (Y.loadAgg rfl ag28 rfl (Cels.pre (Cels.all (cs := #[v32 ip, v16 port, vI last, vB nm]) inn) (l' := [v32 ip, v16 port]) ⟨_, rfl⟩) (by first | rfl | ((try simp only [List.length_map, List.length_set, List.length_replicate]); omega))) ?_
  refine TL.as (.agg #[v32 ip, v16 port]) (by rfl) ?_
  refine TL.val rfl rfl rfl (Y.loadAgg rfl ag28 rfl (Cels.all (cs := #[v32 ip', v16 port']) inn) (by first | rfl | ((try simp only [List.length_map, List.length_set, List.length_replicate]); omega))) ?_
  refine TL.as (.agg #[v32 ip', v16 port']) (by rfl) ?_
  refine TL.val rfl rfl rfl (Y.eqSt rfl sf28 sp28 eg28 sn28 rfl rfl (FEq.cons sc26 rfl rfl (EqV.int Try.underlying26) (FEq.cons sc22 rfl rfl (EqV.int Try.underlying22) FEq.nil))) ?_
  refine TL.as (.bool ((ip, port) == (ip', port'))) (by first | rfl | (rw [← eqA_or]; done) | (rw [← eqA_or]; simp; done)) ?_
  refine TL.val rfl rfl rfl (Y.assign rfl rfl) ?_
  refine TL.nil ?_
  refine TQ.next ?_
  refine TC.ret ?_
  refine TQ.retE (res1 rfl rfl) (⟨rfl, rfl⟩) ?_
  exact ett
theorem h1_any (A : SA) (x : Pr) (ip' : UInt32) (port' : UInt16) (b6 : Nat) (L : List SA) : Fn Try.prog 23 ([] ++ [.agg (Dat.c x).toArray] ++ [pt b6 0]) (A :: SA.blk b6 #[v32 ip', v16 port'] 28 :: L)
    (fun v L' => v = .bool (eqA (ip', port') x) ∧ L' = A :: SA.blk b6 #[v32 ip', v16 port'] 28 :: L) := h1_fn A x.1.1 ip' x.1.2 port' x.2.1 x.2.2 b6 L
theorem PR.small {b : List UInt8} {c m : Int} {f : Nat → UInt8} {l : List At} {e : Nat} (h : PR b c m f (l.map pl) e) : ∀ x ∈ l, x.2.l.length ≤ 140737488351232 := by
  rcases h with ⟨rfl, h⟩ | ⟨rfl, rfl, rfl, rfl, h, -⟩
  · intro x hx
    have := (good_parts ((build_iff _ _).1 h).1).1 (pl x) (List.mem_map_of_mem hx)
    have e : (pl x).2.length = x.2.l.length := rfl
    omega
  · have : l = [] := by simpa using h
    subst this; simp
theorem idx_some {l : List Pr} {a : Ad} {k : Nat} (h : l.findIdx? (eqA a) = some k) : ixp.idx (eqA a) l = (k : Int) ∧ pk l a = k ∧ pl1 l a = l ∧ k < l.length := by
  refine ⟨by unfold ixp.idx; rw [h], by unfold pk; rw [h]; rfl, by unfold pl1; rw [h], (List.findIdx?_eq_some_iff_getElem.1 h).1⟩
theorem idx_none {l : List Pr} {a : Ad} (h : l.findIdx? (eqA a) = none) : ixp.idx (eqA a) l = -1 ∧ pk l a = l.length ∧ pl1 l a = l ++ [(a, 0, false)] := by
  refine ⟨by unfold ixp.idx; rw [h], by unfold pk; rw [h]; rfl, by unfold pl1; rw [h]⟩
section
variable (ab : Nat) (na : Option Addr) (nc : Nat) (name : List UInt8) (pa : Option Addr) (pc : Nat) (pw : List UInt8) (la : Option Addr) (lc : Nat) (l : List Pr) (clk : Int) (a : Option Addr) (n cap : Nat) (b : List UInt8) (hn : b.length = n) (hr : n ≤ 140737488351232) (hpw : pw.length ≤ 140737488351232)
  (ip : UInt32) (port : UInt16) (now : Int)
include hn hr hpw
set_option maxHeartbeats 4000000 in
theorem Handle_ok (f : Nat → UInt8) (ps : List PA) (hpr : PR b 0 1 f ps 0) (hall : AllOk name pw b ps) (hroom : (l.findIdx? (eqA (ip, port))).isSome = true ∨ l.length < 4) (hl4 : l.length ≤ 4) (L : List SA) :
    Fn Try.prog 9 [pt ab 0, .slice a n cap, .agg #[v32 ip, v16 port], vI now] (SA.blk ab (agC na name.length nc pa pw.length pc la l.length lc clk) 55 :: SA.owns 70 4 (.slice la l.length lc) l.length (Dat.cs l) :: SA.rds 1 (.slice na name.length nc) name.length (name.map v8) :: SA.rds 1 (.slice pa pw.length pc) pw.length (pw.map v8) :: SA.rds 1 (.slice a n cap) n (b.map v8) :: L)
      (fun v L' => ∃ oa oc la' lc', v = .tuple #[.slice oa 64 oc, vN 0] ∧ L' = SA.blk ab (agC na name.length nc pa pw.length pc la' (upd l (ip, port) (max clk now) (fo (findP ps 37))).length lc' (max clk now)) 55 :: SA.owns 70 4 (.slice la' (upd l (ip, port) (max clk now) (fo (findP ps 37))).length lc') (upd l (ip, port) (max clk now) (fo (findP ps 37))).length (Dat.cs (upd l (ip, port) (max clk now) (fo (findP ps 37)))) :: SA.rds 1 (.slice na name.length nc) name.length (name.map v8) :: SA.rds 1 (.slice pa pw.length pc) pw.length (pw.map v8) :: SA.rds 1 (.slice a n cap) n (b.map v8) :: L) := by
  refine Fn.of (N := 166) Try.func9 rfl rfl ?_
  intro Xh
  refine TC.seq ?_
  refine TC.region ?_
  refine TL.eff rfl rfl rfl (X.boxA rfl rfl) ?_
  rintro _ _ ⟨b6, rfl, rfl⟩
  refine TL.val rfl rfl rfl (Y.assign rfl rfl) ?_
  refine TL.val rfl rfl rfl (Y.assign rfl rfl) ?_
  refine TL.nil ?_
  refine TQ.next ?_
  refine TC.seq ?_
  refine TC.seq ?_
  refine TC.region ?_
  refine TL.val rfl rfl rfl (Y.move rfl rfl) ?_
  refine TL.val rfl rfl rfl (by first | exact Y.eqNilP rfl Try.underlying24 rfl rfl | exact Y.eqNil0 rfl Try.underlying24 rfl rfl) ?_
  refine TL.nil ?_
  refine TQ.next ?_
  refine TC.cond_f rfl ?_
  refine TC.skip ?_
  refine TQ.next ?_
  refine TC.seq ?_
  refine TC.region ?_
  refine TL.val rfl rfl rfl (Y.move rfl rfl) ?_
  refine TL.val rfl rfl rfl (Y.move rfl rfl) ?_
  refine TL.val rfl rfl rfl (Y.nilCheck rfl rfl) ?_
  refine TL.val rfl rfl rfl (by first | exact Y.fieldAddrJ rfl fo55_3 rfl nqq | exact Y.fieldAddr rfl fo55_3 rfl nqq) ?_
  refine TL.val rfl rfl rfl (Y.load rfl sc2 rfl celN) ?_
  refine TL.as (vI clk) (by rfl) ?_
  refine TL.val rfl rfl rfl (Y.move rfl rfl) ?_
  refine TL.val rfl rfl rfl (Y.maxI rfl rfl rfl) ?_
  refine TL.val rfl rfl rfl (Y.nilCheck rfl rfl) ?_
  refine TL.val rfl rfl rfl (by first | exact Y.fieldAddrJ rfl fo55_3 rfl nqq | exact Y.fieldAddr rfl fo55_3 rfl nqq) ?_
  refine TL.eff0 rfl rfl (X.store (cs' := agC na name.length nc pa pw.length pc la l.length lc (max clk now)) rfl (by kernel_rfl) rfl rfl rfl pul (by show _ < 4; decide) rfl) ?_
  rintro _ _ rfl
  refine TL.nil ?_
  refine TQ.next ?_
  refine TC.seq ?_
  refine TC.region ?_
  refine TL.val rfl rfl rfl (Y.move rfl rfl) ?_
  refine TL.eff rfl rfl rfl (X.call rfl Try.func17 (by kernel_rfl) rfl rfl (Fn.preE (by repeat first | (with_reducible apply Ent.refl) | (apply Ent.cons; case h => first | (with_reducible (repeat first | apply Pull.here | apply Pull.there); done) | (repeat first | apply Pull.here | apply Pull.there))) (Parse_fn a n cap b hn hr _))) ?_
  rintro _ _ ⟨pc35, pm35, pf35, pa35, pcap35, pl35, pe35, rfl, hP35, rfl⟩
  obtain ⟨e1, e2, hid, hl35, e5⟩ := PR.one hP35 hpr
  subst e1; subst e2; subst e5
  rw [← hl35] at hall
  have hb35 := PR.small hP35
  refine TL.val rfl rfl rfl (Y.move rfl rfl) ?_
  refine TL.val rfl rfl rfl (Y.extract rfl rfl rfl) ?_
  refine TL.val rfl rfl rfl (Y.extract rfl rfl rfl) ?_
  refine TL.eff rfl rfl rfl (X.alloc rfl zc58) ?_
  rintro _ _ ⟨b10, rfl, rfl⟩
  refine TL.eff0 rfl rfl (X.storeAll rfl (by kernel_rfl) (msgC_size _ _ _ _) rfl rfl (msg_one _ _ _ _ _ _) pul rfl) ?_
  rintro _ _ rfl
  refine TL.val rfl rfl rfl (Y.assign rfl rfl) ?_
  refine TL.nil ?_
  refine TQ.next ?_
  refine TC.seq ?_
  refine TC.seq ?_
  refine TC.region ?_
  refine TL.val rfl rfl rfl (Y.move rfl rfl) ?_
  refine TL.val rfl rfl rfl (Y.bin rfl rfl rfl (br_neN (n := 0))) ?_
  refine TL.is false (by first | rfl | (simp only [decide_eq_true_eq, decide_eq_false_iff_not, Bool.not_eq_true', Bool.not_eq_false', Bool.not_eq_eq_eq_not, Bool.not_true, Bool.not_false, Nat.not_lt, Nat.not_le]; omega) | (simp [*]; done) | (simp; omega)) ?_
  refine TL.nil ?_
  refine TQ.next ?_
  refine TC.cond_f rfl ?_
  refine TC.skip ?_
  refine TQ.next ?_
  refine TC.seq ?_
  refine TC.seq ?_
  refine TC.region ?_
  refine TL.val rfl rfl rfl (by first | exact Y.fieldAddrJ rfl fo58_0 rfl nqq | exact Y.fieldAddr rfl fo58_0 rfl nqq) ?_
  refine TL.val rfl rfl rfl (Y.load rfl sc3 rfl celN) ?_
  refine TL.val rfl rfl rfl (Y.bin rfl rfl rfl (br_neI (n := 0))) ?_
  refine TL.is false (by first | rfl | (simp only [decide_eq_true_eq, decide_eq_false_iff_not, Bool.not_eq_true', Bool.not_eq_false', Bool.not_eq_eq_eq_not, Bool.not_true, Bool.not_false, Nat.not_lt, Nat.not_le]; omega) | (simp [*]; done) | (simp; omega)) ?_
  refine TL.val rfl rfl rfl (Y.move rfl rfl) ?_
  refine TL.valG rfl rfl rfl (by first | exact Y.fieldAddrJ rfl fo58_1 rfl nqq | exact Y.fieldAddr rfl fo58_1 rfl nqq) ?_
  refine TL.valG rfl rfl rfl (Y.load rfl sc3 rfl celN) ?_
  refine TL.valG rfl rfl rfl (Y.bin rfl rfl rfl (br_neI (n := 1))) ?_
  refine TL.is false (by first | rfl | (simp only [decide_eq_true_eq, decide_eq_false_iff_not, Bool.not_eq_true', Bool.not_eq_false', Bool.not_eq_eq_eq_not, Bool.not_true, Bool.not_false, Nat.not_lt, Nat.not_le]; omega) | (simp [*]; done) | (simp; omega)) ?_
  refine TL.val rfl rfl rfl (Y.pick_f rfl rfl rfl) ?_
  refine TL.nil ?_
  refine TQ.next ?_
  refine TC.cond_f rfl ?_
  refine TC.skip ?_
  refine TQ.next ?_
  refine TC.seq ?_
  refine TC.seq ?_
  refine TC.region ?_
  refine TL.val rfl rfl rfl (Y.move rfl rfl) ?_
  refine TL.val rfl rfl rfl (Y.move rfl rfl) ?_
  refine TL.val rfl rfl rfl (Y.loadAgg rfl ag58 rfl (Cels.all (cs := msgC 0 1 pf35 (.slice pa35 pl35.length pcap35)) inn) (by first | rfl | ((try simp only [List.length_map, List.length_set, List.length_replicate]); omega))) ?_
  refine TL.as (.agg (msgC 0 1 pf35 (.slice pa35 pl35.length pcap35))) (by rfl) ?_
  refine TL.eff rfl rfl rfl (X.call rfl Try.func18 (by kernel_rfl) rfl rfl (Fn.preE (by repeat first | (with_reducible apply Ent.refl) | (apply Ent.cons; case h => first | (with_reducible (repeat first | apply Pull.here | apply Pull.there); done) | (repeat first | apply Pull.here | apply Pull.there))) (ask_ok ab na nc name pa pc pw la l.length lc (max clk now) a n cap b hn hr hpw 0 1 pf35 pa35 pcap35 pl35 hb35 hall _))) ?_
  rintro _ _ ⟨rfl, rfl⟩
  refine TL.val rfl rfl rfl (Y.assign rfl rfl) ?_
  refine TL.nil ?_
  refine TQ.next ?_
  refine TC.seq ?_
  refine TC.region ?_
  refine TL.val rfl rfl rfl (Y.move rfl rfl) ?_
  refine TL.val rfl rfl rfl (by first | exact Y.neNilP rfl Try.underlying61 rfl rfl | exact Y.neNil0 rfl Try.underlying61 rfl rfl) ?_
  refine TL.nil ?_
  refine TQ.next ?_
  refine TC.cond_f rfl ?_
  refine TC.skip ?_
  refine TQ.next ?_
  refine TC.seq ?_
  refine TC.region ?_
  refine TL.val rfl rfl rfl (Y.move rfl rfl) ?_
  refine TL.val rfl rfl rfl (Y.nilCheck rfl rfl) ?_
  refine TL.val rfl rfl rfl (by first | exact Y.fieldAddrJ rfl fo55_2 rfl nqq | exact Y.fieldAddr rfl fo55_2 rfl nqq) ?_
  refine TL.val rfl rfl rfl (Y.load rfl sc48 rfl celD) ?_
  refine TL.as (.slice la l.length lc) (by rfl) ?_
  refine TL.val rfl rfl rfl (Y.makeFunc rfl rfl rfl) ?_
  refine TL.eff rfl rfl rfl (X.call rfl Try.func22 (by kernel_rfl) rfl rfl (Fn.preE (by repeat first | (with_reducible apply Ent.refl) | (apply Ent.cons; case h => first | (with_reducible (repeat first | apply Pull.here | apply Pull.there); done) | (repeat first | apply Pull.here | apply Pull.there))) (ixp.IndexFunc_fn (SA.owns 70 4 (.slice la l.length lc) l.length (Dat.cs l)) la l.length lc l Reads.owns rfl rfl 23 _ [] [pt b6 0] (eqA (ip, port)) (SA.blk b6 #[v32 ip, v16 port] 28 :: _) Try.func23 (by kernel_rfl) rfl (fun x _ => h1_any _ x ip port b6 _)))) ?_
  rintro _ _ ⟨rfl, rfl⟩
  refine TL.val rfl rfl rfl (Y.assign rfl rfl) ?_
  refine TL.nil ?_
  refine TQ.next ?_
  refine TC.cutF (ι := Option Addr × Nat) [8, 9] (fun _ => True) (fun i => [(16, some (vN (pk l (ip, port))))]) (fun i => [SA.blk ab (agC na name.length nc pa pw.length pc i.1 (pl1 l (ip, port)).length i.2 (max clk now)) 55, SA.owns 70 4 (.slice i.1 (pl1 l (ip, port)).length i.2) (pl1 l (ip, port)).length (Dat.cs (pl1 l (ip, port)))]) (Ao := [SA.blk ab (agC na name.length nc pa pw.length pc la l.length lc (max clk now)) 55, SA.owns 70 4 (.slice la l.length lc) l.length (Dat.cs l)]) (Pulls.cons pul (Pulls.cons pul Pulls.nil)) ?_ ?_
  · rintro L' hL'
    simp only [List.cons_append, List.nil_append] at hL'
    subst hL'
    refine TC.seq ?_
    refine TC.region ?_
    refine TL.val rfl rfl rfl (Y.move rfl rfl) ?_
    refine TL.val rfl rfl rfl (Y.bin rfl rfl rfl (br_ltI (n := 0))) ?_
    refine TL.nil ?_
    refine TQ.next ?_
    refine TC.cond rfl (fun c4 => ?_) (fun c4 => ?_)
    · try simp only [decide_eq_true_eq, decide_eq_false_iff_not, Bool.not_eq_true', Bool.not_eq_false', Bool.and_eq_true, Bool.or_eq_true, Nat.not_lt, Nat.not_le, beq_iff_eq, bne_iff_ne] at c4
      have hqn : l.findIdx? (eqA (ip, port)) = none := by
        cases h : l.findIdx? (eqA (ip, port)) with
        | none => rfl
        | some k => rw [(idx_some h).1] at c4; omega
      have hl3 : l.length < 4 := by
        rcases hroom with h | h
        · rw [hqn] at h; cases h
        · exact h
      obtain ⟨-, hpk, hp1⟩ := idx_none hqn
      rw [hpk, hp1]
      refine TC.seq ?_
      refine TC.seq ?_
      refine TC.region ?_
      refine TL.val rfl rfl rfl (Y.move rfl rfl) ?_
      refine TL.val rfl rfl rfl (Y.nilCheck rfl rfl) ?_
      refine TL.val rfl rfl rfl (by first | exact Y.fieldAddrJ rfl fo55_2 rfl nqq | exact Y.fieldAddr rfl fo55_2 rfl nqq) ?_
      refine TL.val rfl rfl rfl (Y.load rfl sc48 rfl celD) ?_
      refine TL.as (.slice la l.length lc) (by rfl) ?_
      refine TL.val rfl rfl rfl (Y.len rfl Try.underlying48 rfl) ?_
      refine TL.val rfl rfl rfl (Y.bin rfl rfl rfl (br_eqN (n := 4))) ?_
      refine TL.is false (by first | rfl | (simp only [decide_eq_true_eq, decide_eq_false_iff_not, Bool.not_eq_true', Bool.not_eq_false', Bool.not_eq_eq_eq_not, Bool.not_true, Bool.not_false, Nat.not_lt, Nat.not_le]; omega) | (simp [*]; done) | (simp; omega)) ?_
      refine TL.nil ?_
      refine TQ.next ?_
      refine TC.cond_f rfl ?_
      refine TC.skip ?_
      refine TQ.next ?_
      refine TC.seq ?_
      refine TC.region ?_
      refine TL.val rfl rfl rfl (Y.move rfl rfl) ?_
      refine TL.val rfl rfl rfl (Y.nilCheck rfl rfl) ?_
      refine TL.val rfl rfl rfl (by first | exact Y.fieldAddrJ rfl fo55_2 rfl nqq | exact Y.fieldAddr rfl fo55_2 rfl nqq) ?_
      refine TL.val rfl rfl rfl (Y.load rfl sc48 rfl celD) ?_
      refine TL.as (.slice la l.length lc) (by rfl) ?_
      refine TL.val rfl rfl rfl (Y.len rfl Try.underlying48 rfl) ?_
      refine TL.val rfl rfl rfl (Y.assign rfl rfl) ?_
      refine TL.nil ?_
      refine TQ.next ?_
      refine TC.draws 11 [SA.blk ab (agC na name.length nc pa pw.length pc la l.length lc (max clk now)) 55, SA.blk b6 #[v32 ip, v16 port] 28] (by kernel_rfl) (by kernel_rfl) (by repeat first | exact holds_nil | refine holds_cons inn ?_) ?_
      refine TA.take 0 rfl rfl rfl rfl (by kernel_rfl) (by kernel_rfl) (by kernel_rfl) rfl (by kernel_rfl) (by kernel_rfl) (fun _ _ _ h => h) (Y.move rfl rfl) ?_
      refine TA.take 1 rfl rfl rfl rfl (by kernel_rfl) (by kernel_rfl) (by kernel_rfl) rfl (by kernel_rfl) (by kernel_rfl) (fun _ _ _ h => h) (Y.move rfl rfl) ?_
      refine TA.take 2 rfl rfl rfl rfl (by kernel_rfl) (by kernel_rfl) (by kernel_rfl) rfl (by kernel_rfl) (by kernel_rfl) (fun _ _ _ h => h) (Y.nilCheck rfl rfl) ?_
      refine TA.take 3 rfl rfl rfl rfl (by kernel_rfl) (by kernel_rfl) (by kernel_rfl) rfl (by kernel_rfl) (by kernel_rfl) (fun _ _ _ h => h) (by first | exact Y.fieldAddrJ rfl fo55_2 rfl nqq | exact Y.fieldAddr rfl fo55_2 rfl nqq) ?_
      refine TA.take 4 rfl rfl rfl rfl (by kernel_rfl) (by kernel_rfl) (by kernel_rfl) rfl (by kernel_rfl) (by kernel_rfl) (fun _ _ _ h => h) (Y.load rfl sc48 rfl celD) ?_
      refine TA.as (.slice la l.length lc) (by rfl) ?_
      refine TA.take 5 rfl rfl rfl rfl (by kernel_rfl) (by kernel_rfl) (by kernel_rfl) rfl (by kernel_rfl) (by kernel_rfl) (fun _ _ _ h => h) (Y.loadAgg rfl ag28 rfl (Cels.all (cs := #[v32 ip, v16 port]) inn) (by first | rfl | ((try simp only [List.length_map, List.length_set, List.length_replicate]); omega))) ?_
      refine TA.as (.agg #[v32 ip, v16 port]) (by rfl) ?_
      refine TA.take 6 rfl rfl rfl rfl (by kernel_rfl) (by kernel_rfl) (by kernel_rfl) rfl (by kernel_rfl) (by kernel_rfl) (fun _ _ _ h => h) (Y.buildS (cells := #[v32 ip, v16 port, vI 0, vB false]) rfl rfl pl70 zc70 (by kernel_rfl)) ?_
      refine TA.one 7 (by kernel_rfl) rfl rfl rfl rfl (X.litA (bytes := 0) (z := .nilFunc) rfl Try.underlying48 zs70 rfl rfl rfl (by decide) (by decide) (by decide) rfl (cells := [v32 ip, v16 port, vI 0, vB false]) rfl rfl) ?_
      rintro _ _ ⟨g110, rfl, rfl⟩
      refine ⟨(Or.inr (by repeat first | exact holds_nil | refine holds_cons inn ?_)), ?_⟩
      refine TA.one 8 (by kernel_rfl) rfl rfl rfl rfl (X.appendS rfl el48 rfl pul rfl (by first | exact Src.owns Try.underlying48 inn | exact Src.rds Try.underlying48 inn | exact Src.reads (by assumption) Try.underlying48 inn) (by simp only [maxLen]; omega) (by omega)) ?_
      rintro _ _ ⟨a111, c111, rfl, rfl⟩
      rw [show Dat.cs l ++ [v32 ip, v16 port, vI 0, vB false] = Dat.cs (l ++ [(((ip, port), 0, false) : Pr)]) from (Dat.cs_app l [(((ip, port), 0, false) : Pr)]).symm, show l.length + 1 = (l ++ [(((ip, port), 0, false) : Pr)]).length by simp]
      refine ⟨(Or.inr (by repeat first | exact holds_nil | refine holds_cons inn ?_)), ?_⟩
      refine TA.takeP 9 rfl rfl rfl rfl (by kernel_rfl) (by kernel_rfl) (by kernel_rfl) rfl (fun _ _ _ h => h) (Y.nilCheck rfl rfl) ?_
      refine TA.take 10 rfl rfl rfl rfl (by kernel_rfl) (by kernel_rfl) (by kernel_rfl) rfl (by kernel_rfl) (by kernel_rfl) (fun _ _ _ h => h) (by first | exact Y.fieldAddrJ rfl fo55_2 rfl nqq | exact Y.fieldAddr rfl fo55_2 rfl nqq) ?_
      refine TA.one0 11 (by kernel_rfl) rfl rfl rfl (X.store (cs' := agC na name.length nc pa pw.length pc a111 (l ++ [(((ip, port), 0, false) : Pr)]).length c111 (max clk now)) rfl (by kernel_rfl) rfl rfl rfl pul (by show _ < 4; decide) rfl) ?_
      rintro _ _ rfl
      refine ⟨(Or.inl (by kernel_rfl)), ?_⟩
      refine TA.done (by kernel_rfl) ?_
      refine TQ.meetF ((by first | exact (a111, c111) | exact (la, lc))) (trivial) ⟨rfl, trivial⟩ (by (repeat first | apply Grow.refl | apply Grow.step | apply Grow.app)) ?_ ?_
      · kernel_rfl
      · simp only [List.cons_append, List.nil_append]
        exact ett
    · try simp only [decide_eq_true_eq, decide_eq_false_iff_not, Bool.not_eq_true', Bool.not_eq_false', Bool.and_eq_true, Bool.or_eq_true, Nat.not_lt, Nat.not_le, beq_iff_eq, bne_iff_ne] at c4
      obtain ⟨k, hk⟩ : ∃ k, l.findIdx? (eqA (ip, port)) = some k := by
        cases h : l.findIdx? (eqA (ip, port)) with
        | none => rw [(idx_none h).1] at c4; omega
        | some k => exact ⟨k, rfl⟩
      obtain ⟨hik, hpk, hp1, -⟩ := idx_some hk
      rw [hik, hpk, hp1]
      refine TC.skip ?_
      refine TQ.meetF ((by first | exact (a111, c111) | exact (la, lc))) (trivial) ⟨rfl, trivial⟩ (by (repeat first | apply Grow.refl | apply Grow.step | apply Grow.app)) ?_ ?_
      · kernel_rfl
      · simp only [List.cons_append, List.nil_append]
        exact ett
  · rintro ⟨ka, kc⟩ - F' L' rfl hL'
    simp only [List.cons_append, List.nil_append] at hL'
    subst hL'
    obtain ⟨l1, hl1⟩ : ∃ l1, l1 = pl1 l (ip, port) := ⟨_, rfl⟩
    obtain ⟨k, hk⟩ : ∃ k, k = pk l (ip, port) := ⟨_, rfl⟩
    have hkk : pk l (ip, port) < (pl1 l (ip, port)).length := pk_lt l (ip, port)
    have hl5 := pl1_len l (ip, port)
    rw [← hl1] at hl5
    rw [← hk, ← hl1] at hkk
    rw [← hk, ← hl1]
    refine TC.know (owns_some (a := ka) inn (by omega)) ?_
    rintro ⟨kg, ko, rfl⟩
    refine TC.seq ?_
    refine TC.draws 11 _ (by kernel_rfl) (by kernel_rfl) (fun _ h => h) ?_
    refine TA.take 0 rfl rfl rfl rfl (by kernel_rfl) (by kernel_rfl) (by kernel_rfl) rfl (by kernel_rfl) (by kernel_rfl) (fun _ _ _ h => h) (Y.move rfl rfl) ?_
    refine TA.take 1 rfl rfl rfl rfl (by kernel_rfl) (by kernel_rfl) (by kernel_rfl) rfl (by kernel_rfl) (by kernel_rfl) (fun _ _ _ h => h) (Y.nilCheck rfl rfl) ?_
    refine TA.take 2 rfl rfl rfl rfl (by kernel_rfl) (by kernel_rfl) (by kernel_rfl) rfl (by kernel_rfl) (by kernel_rfl) (fun _ _ _ h => h) (by first | exact Y.fieldAddrJ rfl fo55_2 rfl nqq | exact Y.fieldAddr rfl fo55_2 rfl nqq) ?_
    refine TA.take 3 rfl rfl rfl rfl (by kernel_rfl) (by kernel_rfl) (by kernel_rfl) rfl (by kernel_rfl) (by kernel_rfl) (fun _ _ _ h => h) (Y.load rfl sc48 rfl celD) ?_
    refine TA.as (.slice (some ⟨kg, ko, none⟩) l1.length kc) (by rfl) ?_
    refine TA.take 4 rfl rfl rfl rfl (by kernel_rfl) (by kernel_rfl) (by kernel_rfl) rfl (by kernel_rfl) (by kernel_rfl) (fun _ _ _ h => h) (Y.move rfl rfl) ?_
    refine TA.take 5 rfl rfl rfl rfl (by kernel_rfl) (by kernel_rfl) (by kernel_rfl) rfl (by kernel_rfl) (by kernel_rfl) (fun _ _ _ h => h) (Y.move rfl rfl) ?_
    refine TA.take 6 rfl rfl rfl rfl (by kernel_rfl) (by kernel_rfl) (by kernel_rfl) rfl (by kernel_rfl) (by kernel_rfl) (fun _ _ _ h => h) (Y.nilCheck rfl rfl) ?_
    refine TA.take 7 rfl rfl rfl rfl (by kernel_rfl) (by kernel_rfl) (by kernel_rfl) rfl (by kernel_rfl) (by kernel_rfl) (fun _ _ _ h => h) (by first | exact Y.fieldAddrJ rfl fo55_3 rfl nqq | exact Y.fieldAddr rfl fo55_3 rfl nqq) ?_
    refine TA.take 8 rfl rfl rfl rfl (by kernel_rfl) (by kernel_rfl) (by kernel_rfl) rfl (by kernel_rfl) (by kernel_rfl) (fun _ _ _ h => h) (Y.load rfl sc2 rfl celN) ?_
    refine TA.as (vI (max clk now)) (by rfl) ?_
    refine TA.takeP 9 rfl rfl rfl rfl (by kernel_rfl) (by kernel_rfl) (by kernel_rfl) rfl (fun _ _ _ h => h) (by first | exact Y.indexSlB rfl sl48 rfl rfl (by omega) nqq | exact Y.indexSl rfl sl48 rfl rfl (by omega) nqq) ?_
    refine TA.take 10 rfl rfl rfl rfl (by kernel_rfl) (by kernel_rfl) (by kernel_rfl) rfl (by kernel_rfl) (by kernel_rfl) (fun _ _ _ h => h) (by first | exact Y.fieldAddrJ rfl fo70_1 rfl nqq | exact Y.fieldAddr rfl fo70_1 rfl nqq) ?_
    refine TA.one0 11 (by kernel_rfl) rfl rfl rfl (X.storeOwn (off := ko) (j := k * 4 + 2) (cs' := Dat.cs (setL l1 k (max clk now))) rfl (by kernel_rfl) rfl rfl rfl rfl pul (by omega) (cs_clk _ hkk)) ?_
    rintro _ _ rfl
    refine ⟨(Or.inl (by kernel_rfl)), ?_⟩
    refine TA.done (by kernel_rfl) ?_
    obtain ⟨l2, hl2⟩ : ∃ l2, l2 = setL l1 k (max clk now) := ⟨_, rfl⟩
    have hll : l1.length = l2.length := by rw [hl2, setL_len]
    rw [← hl2, hll]
    refine TQ.next ?_
    refine TC.cutF (ι := List Pr) [] (fun l3 => l3 = fin (fo (findP (pl35.map pl) 37)) k l2) (fun l3 => []) (fun l3 => [SA.owns 70 4 (.slice (some ⟨kg, ko, none⟩) l2.length kc) l2.length (Dat.cs l3)]) (Ao := [SA.owns 70 4 (.slice (some ⟨kg, ko, none⟩) l2.length kc) l2.length (Dat.cs l2)]) (Pulls.cons pul Pulls.nil) ?_ ?_
    · rintro L' hL'
      simp only [List.cons_append, List.nil_append] at hL'
      subst hL'
      refine TC.seq ?_
      refine TC.region ?_
      refine TL.val rfl rfl rfl (Y.loadAgg rfl ag58 rfl (Cels.all (cs := msgC 0 1 pf35 (.slice pa35 pl35.length pcap35)) inn) (by first | rfl | ((try simp only [List.length_map, List.length_set, List.length_replicate]); omega))) ?_
      refine TL.as (.agg (msgC 0 1 pf35 (.slice pa35 pl35.length pcap35))) (by rfl) ?_
      refine TL.eff rfl rfl rfl (X.call rfl Try.func24 (by kernel_rfl) rfl rfl (Fn.preE (by repeat first | (with_reducible apply Ent.refl) | (apply Ent.cons; case h => first | (with_reducible (repeat first | apply Pull.here | apply Pull.there); done) | (repeat first | apply Pull.here | apply Pull.there))) (Find_fn 0 1 pf35 pa35 pcap35 pl35 37 hb35 _))) ?_
      rintro _ _ ⟨fa127, fc127, rfl, rfl⟩
      refine TL.val rfl rfl rfl (Y.move rfl rfl) ?_
      refine TL.val rfl rfl rfl (Y.extract rfl rfl rfl) ?_
      refine TL.val rfl rfl rfl (Y.extract rfl rfl rfl) ?_
      refine TL.val rfl rfl rfl (Y.assign rfl rfl) ?_
      refine TL.val rfl rfl rfl (Y.assign rfl rfl) ?_
      refine TL.nil ?_
      refine TQ.next ?_
      refine TC.seq ?_
      refine TC.region ?_
      refine TL.val rfl rfl rfl (Y.move rfl rfl) ?_
      refine TL.nil ?_
      refine TQ.next ?_
      refine TC.cond rfl (fun c6 => ?_) (fun c6 => ?_)
      · try simp only [decide_eq_true_eq, decide_eq_false_iff_not, Bool.not_eq_true', Bool.not_eq_false', Bool.and_eq_true, Bool.or_eq_true, Nat.not_lt, Nat.not_le, beq_iff_eq, bne_iff_ne] at c6
        have hfin : nomU k l2.length l2 = fin (fo (findP (pl35.map pl) 37)) k l2 := by rw [c6]; rfl
        refine TC.seq ?_
        refine TC.region ?_
        refine TL.val rfl rfl rfl (Y.move rfl rfl) ?_
        refine TL.val rfl rfl rfl (Y.nilCheck rfl rfl) ?_
        refine TL.val rfl rfl rfl (by first | exact Y.fieldAddrJ rfl fo55_2 rfl nqq | exact Y.fieldAddr rfl fo55_2 rfl nqq) ?_
        refine TL.val rfl rfl rfl (Y.load rfl sc48 rfl celD) ?_
        refine TL.as (.slice (some ⟨kg, ko, none⟩) l2.length kc) (by rfl) ?_
        refine TL.val rfl rfl rfl (Y.len rfl Try.underlying48 rfl) ?_
        refine TL.val rfl rfl rfl (Y.move rfl rfl) ?_
        refine TL.nil ?_
        refine TQ.next ?_
        refine TC.block ?_
        refine TC.to (Ent.eqOwn (cs' := Dat.cs (nomU k 0 l2)) (cs := Dat.cs l2) pul (by rw [nomU_zero])) ?_
        refine TC.loopF (ι := Nat) [] (fun i => i ≤ l2.length) (fun i => [(136, some (vN i))]) (fun i => [SA.owns 70 4 (.slice (some ⟨kg, ko, none⟩) l2.length kc) l2.length (Dat.cs (nomU k i l2))]) (fun i => l2.length - i) (0) (by omega) ⟨rfl, trivial⟩ (Pulls.cons pul Pulls.nil) ?_
        rintro i hi F' L' rfl hL'
        simp only [List.cons_append, List.nil_append] at hL'
        subst hL'
        refine TC.seq ?_
        refine TC.region ?_
        refine TL.val rfl rfl rfl (Y.bin rfl rfl rfl (br_ltN)) ?_
        refine TL.nil ?_
        refine TQ.next ?_
        refine TC.seq ?_
        refine TC.cond rfl (fun c7 => ?_) (fun c7 => ?_)
        · try simp only [decide_eq_true_eq, decide_eq_false_iff_not, Bool.not_eq_true', Bool.not_eq_false', Bool.and_eq_true, Bool.or_eq_true, Nat.not_lt, Nat.not_le, beq_iff_eq, bne_iff_ne] at c7
          refine TC.skip ?_
          refine TQ.next ?_
          refine TC.seq ?_
          refine TC.block ?_
          refine TC.seq ?_
          refine TC.region ?_
          refine TL.val rfl rfl rfl (Y.move rfl rfl) ?_
          refine TL.val rfl rfl rfl (Y.assign rfl rfl) ?_
          refine TL.nil ?_
          refine TQ.next ?_
          refine TC.region ?_
          refine TL.val rfl rfl rfl (Y.move rfl rfl) ?_
          refine TL.val rfl rfl rfl (Y.nilCheck rfl rfl) ?_
          refine TL.val rfl rfl rfl (by first | exact Y.fieldAddrJ rfl fo55_2 rfl nqq | exact Y.fieldAddr rfl fo55_2 rfl nqq) ?_
          refine TL.val rfl rfl rfl (Y.load rfl sc48 rfl celD) ?_
          refine TL.as (.slice (some ⟨kg, ko, none⟩) l2.length kc) (by rfl) ?_
          refine TL.val rfl rfl rfl (Y.move rfl rfl) ?_
          refine TL.val rfl rfl rfl (Y.move rfl rfl) ?_
          refine TL.val rfl rfl rfl (Y.move rfl rfl) ?_
          refine TL.val rfl rfl rfl (Y.bin rfl rfl rfl (br_eqN)) ?_
          refine TL.val rfl rfl rfl (by first | exact Y.indexSlB rfl sl48 rfl rfl (by omega) nqq | exact Y.indexSl rfl sl48 rfl rfl (by omega) nqq) ?_
          refine TL.val rfl rfl rfl (by first | exact Y.fieldAddrJ rfl fo70_2 rfl nqq | exact Y.fieldAddr rfl fo70_2 rfl nqq) ?_
          refine TL.eff0 rfl rfl (X.storeOwn (off := ko) (j := i * 4 + 3) (cs' := Dat.cs (nomU k (i + 1) l2)) rfl (by kernel_rfl) rfl rfl rfl rfl pul (by omega) (cs_nom (by omega))) ?_
          rintro _ _ rfl
          refine TL.nil ?_
          refine TQ.block_normal ?_
          refine TQ.next ?_
          refine TC.region ?_
          refine TL.val rfl rfl rfl (Y.bin rfl rfl rfl (br_addN (n := 1) (by omega))) ?_
          refine TL.val rfl rfl rfl (Y.move rfl rfl) ?_
          refine TL.nil ?_
          refine TQ.loopF (i + 1) (by omega) (by omega) ⟨rfl, trivial⟩ (by (repeat first | apply Grow.refl | apply Grow.step | apply Grow.app)) ?_ ?_ ?_
          · kernel_rfl
          · rfl
          · simp only [List.cons_append, List.nil_append]
            exact ett
        · try simp only [decide_eq_true_eq, decide_eq_false_iff_not, Bool.not_eq_true', Bool.not_eq_false', Bool.and_eq_true, Bool.or_eq_true, Nat.not_lt, Nat.not_le, beq_iff_eq, bne_iff_ne] at c7
          obtain rfl : i = l2.length := by omega
          refine TC.exit ?_
          refine TQ.then_exit ?_
          refine TQ.then_exit ?_
          refine TQ.block_exit ?_
          refine TQ.meetF (ι := List Pr) (I := fun l3 => l3 = fin (fo (findP (pl35.map pl) 37)) k l2) (C := fun (_ : List Pr) => []) (U := []) (_) (hfin) trivial (by (repeat first | apply Grow.refl | apply Grow.step | apply Grow.app)) ?_ ?_
          · kernel_rfl
          · simp only [List.cons_append, List.nil_append]
            exact ett
      · try simp only [decide_eq_true_eq, decide_eq_false_iff_not, Bool.not_eq_true', Bool.not_eq_false', Bool.and_eq_true, Bool.or_eq_true, Nat.not_lt, Nat.not_le, beq_iff_eq, bne_iff_ne] at c6
        have hfin : l2 = fin (fo (findP (pl35.map pl) 37)) k l2 := by rw [c6]; rfl
        refine TC.skip ?_
        refine TQ.meetF (ι := List Pr) (I := fun l3 => l3 = fin (fo (findP (pl35.map pl) 37)) k l2) (C := fun (_ : List Pr) => []) (U := []) (_) (hfin) trivial (by (repeat first | apply Grow.refl | apply Grow.step | apply Grow.app)) ?_ ?_
        · kernel_rfl
        · simp only [List.cons_append, List.nil_append]
          exact ett
    · rintro l3 hl3 F' L' rfl hL'
      simp only [List.cons_append, List.nil_append] at hL'
      subst hL'
      have hu : upd l (ip, port) (max clk now) (fo (findP ps 37)) = l3 := by rw [hl3, hl2, hl1, hk, hl35]; rfl
      have hl3l : l2.length = l3.length := by rw [hl3, fin_len]
      rw [hu, hl3l]
      refine TC.seq ?_
      refine TC.draws 11 [SA.blk ab (agC na name.length nc pa pw.length pc (some ⟨kg, ko, none⟩) l3.length kc (max clk now)) 55, SA.blk b6 #[v32 ip, v16 port] 28, SA.blk b10 (msgC 0 1 pf35 (.slice pa35 pl35.length pcap35)) 58] (by kernel_rfl) (by kernel_rfl) (by repeat first | exact holds_nil | refine holds_cons inn ?_) ?_
      refine TA.takeP 0 rfl rfl rfl rfl (by kernel_rfl) (by kernel_rfl) (by kernel_rfl) rfl (fun _ _ _ h => h) (by first | exact Y.fieldAddrJ rfl fo58_2 rfl nqq | exact Y.fieldAddr rfl fo58_2 rfl nqq) ?_
      refine TA.takeP 7 rfl rfl rfl rfl (by kernel_rfl) (by kernel_rfl) (by kernel_rfl) rfl (fun _ _ _ h => h) (Y.move rfl rfl) ?_
      refine TA.takeP 8 rfl rfl rfl rfl (by kernel_rfl) (by kernel_rfl) (by kernel_rfl) rfl (fun _ _ _ h => h) (Y.nilCheck rfl rfl) ?_
      refine TA.takeP 9 rfl rfl rfl rfl (by kernel_rfl) (by kernel_rfl) (by kernel_rfl) rfl (fun _ _ _ h => h) (by first | exact Y.fieldAddrJ rfl fo55_1 rfl nqq | exact Y.fieldAddr rfl fo55_1 rfl nqq) ?_
      refine TA.take 10 rfl rfl rfl rfl (by kernel_rfl) (by kernel_rfl) (by kernel_rfl) rfl (by kernel_rfl) (by kernel_rfl) (fun _ _ _ h => h) (Y.load rfl sc30 rfl celD) ?_
      refine TA.as (.slice pa pw.length pc) (by rfl) ?_
      refine TA.any (rs := [1, 2]) (by kernel_rfl) (by simp) ?_
      simp only [List.forall_mem_cons, List.not_mem_nil, false_implies, implies_true, and_true]
      refine ⟨?_, ?_⟩
      · skip
        refine TAo.eff rfl rfl rfl rfl (Eff.val (fun _ h => by cases h) (Y.loadAgg rfl ag40 rfl (Cels.blk inn (cs := msgC 0 1 pf35 (.slice pa35 pl35.length pcap35)) (l := (idL pf35).map v8) (msg_id _ _ _ _)) (by first | rfl | ((try simp only [List.length_map, List.length_set, List.length_replicate]); omega)))) ?_
        rintro _ _ ⟨rfl, rfl⟩
        refine ⟨Or.inr (by repeat first | exact holds_nil | refine holds_cons inn ?_), ?_⟩
        refine TA.one 2 (by kernel_rfl) rfl rfl rfl rfl (Eff.val (fun _ h => by cases h) (Y.loadAgg rfl ag28 rfl (Cels.all (cs := #[v32 ip, v16 port]) inn) (by first | rfl | ((try simp only [List.length_map, List.length_set, List.length_replicate]); omega)))) ?_
        rintro _ _ ⟨rfl, rfl⟩
        refine ⟨Or.inr (by repeat first | exact holds_nil | refine holds_cons inn ?_), ?_⟩
        refine TA.as (.agg #[v32 ip, v16 port]) (by rfl) ?_
        refine TA.one 3 (by kernel_rfl) rfl rfl rfl rfl (X.call rfl Try.func25 (by kernel_rfl) rfl rfl (Fn.preE (by repeat first | (with_reducible apply Ent.refl) | (apply Ent.cons; case h => first | (with_reducible (repeat first | apply Pull.here | apply Pull.there); done) | (repeat first | apply Pull.here | apply Pull.there))) (stun.Mapped_fn _ _ _))) ?_
        rintro _ _ ⟨ma154, mc154, rfl, rfl⟩
        refine ⟨(Or.inr (by repeat first | exact holds_nil | refine holds_cons inn ?_)), ?_⟩
        refine TA.takeP 4 rfl rfl rfl rfl (by kernel_rfl) (by kernel_rfl) (by kernel_rfl) rfl (fun _ _ _ h => h) (Y.buildS (cells := #[v16 32, .slice ma154 (mapB ip port).length mc154]) rfl rfl pl76 zc76 (by kernel_rfl)) ?_
        refine TA.one 5 (by kernel_rfl) rfl rfl rfl rfl (X.litA (bytes := 0) (z := .nilFunc) rfl Try.underlying56 zs76 rfl rfl rfl (by decide) (by decide) (by decide) rfl (cells := [v16 32, .slice ma154 (mapB ip port).length mc154]) rfl rfl) ?_
        rintro _ _ ⟨g156, rfl, rfl⟩
        refine ⟨(Or.inr (by repeat first | exact holds_nil | refine holds_cons inn ?_)), ?_⟩
        refine TA.take 6 rfl rfl rfl rfl (by kernel_rfl) (by kernel_rfl) (by kernel_rfl) rfl (by kernel_rfl) (by kernel_rfl) (fun _ _ _ h => h) (Y.buildS (cells := msgC 2 1 pf35 (.slice (some ⟨g156, 0, none⟩) 1 1)) rfl rfl pl58 zc58 (by kernel_rfl)) ?_
        refine TA.to ((Ent.mkAt (t := 32) (a := ma154) (bs := mapB ip port) pul rfl).trans (Ent.trans Ent.rdss0 (Ent.trans (Ent.addEl (x := ((32 : UInt16), (⟨ma154, mc154, mapB ip port⟩ : Bs))) (ys := ([] : List At)) pul pul) (Ent.mkOwn (l := [((32 : UInt16), (⟨ma154, mc154, mapB ip port⟩ : Bs))]) (a := some ⟨g156, 0, none⟩) (n := 1) (cap := 1) pul pul rfl rfl rfl)))) ?_
        refine TA.one 11 (by kernel_rfl) rfl rfl rfl rfl (X.call rfl Try.func21 (by kernel_rfl) rfl rfl (Fn.preE (by repeat first | (with_reducible apply Ent.refl) | (apply Ent.cons; case h => first | (with_reducible (repeat first | apply Pull.here | apply Pull.there); done) | (repeat first | apply Pull.here | apply Pull.there))) (Sign_fn 2 1 pf35 (some ⟨g156, 0, none⟩) 1 [((32 : UInt16), (⟨ma154, mc154, mapB ip port⟩ : Bs))] _ _ _ pw rfl hpw _))) ?_
        rintro _ _ ⟨a162, c162, rfl, rfl⟩
        obtain ⟨s, hs, hsl⟩ := resp_some pf35 (some ⟨g156, 0, none⟩) 1 ma154 mc154 ip port pw
        rw [hs, show ob (some s) = s from rfl, show oe (some s) = 0 from rfl, hsl]
        refine ⟨(Or.inl (by kernel_rfl)), ?_⟩
        refine TA.takeP 12 rfl rfl rfl rfl (by kernel_rfl) (by kernel_rfl) (by kernel_rfl) rfl (fun _ _ _ h => h) (Y.move rfl rfl) ?_
        refine TA.takeP 13 rfl rfl rfl rfl (by kernel_rfl) (by kernel_rfl) (by kernel_rfl) rfl (fun _ _ _ h => h) (Y.extract rfl rfl rfl) ?_
        refine TA.takeP 14 rfl rfl rfl rfl (by kernel_rfl) (by kernel_rfl) (by kernel_rfl) rfl (fun _ _ _ h => h) (Y.extract rfl rfl rfl) ?_
        refine TA.takeP 15 rfl rfl rfl rfl (by kernel_rfl) (by kernel_rfl) (by kernel_rfl) rfl (fun _ _ _ h => h) (Y.assign rfl rfl) ?_
        refine TA.takeP 16 rfl rfl rfl rfl (by kernel_rfl) (by kernel_rfl) (by kernel_rfl) rfl (fun _ _ _ h => h) (Y.assign rfl rfl) ?_
        refine TA.done (by kernel_rfl) ?_
        refine TQ.next ?_
        refine TC.seq ?_
        refine TC.region ?_
        refine TL.val rfl rfl rfl (Y.move rfl rfl) ?_
        refine TL.val rfl rfl rfl (Y.assign rfl rfl) ?_
        refine TL.val rfl rfl rfl (Y.assign rfl rfl) ?_
        refine TL.nil ?_
        refine TQ.next ?_
        refine TC.ret ?_
        refine TQ.retE (res2 rfl rfl rfl) (⟨_, _, some ⟨kg, ko, none⟩, kc, rfl, rfl⟩) ?_
        exact ett
      · skip
        refine TAo.eff rfl rfl rfl rfl (Eff.val (fun _ h => by cases h) (Y.loadAgg rfl ag28 rfl (Cels.all (cs := #[v32 ip, v16 port]) inn) (by first | rfl | ((try simp only [List.length_map, List.length_set, List.length_replicate]); omega)))) ?_
        rintro _ _ ⟨rfl, rfl⟩
        refine ⟨Or.inr (by repeat first | exact holds_nil | refine holds_cons inn ?_), ?_⟩
        refine TA.as (.agg #[v32 ip, v16 port]) (by rfl) ?_
        refine TA.any (rs := [1, 3]) (by kernel_rfl) (by simp) ?_
        simp only [List.forall_mem_cons, List.not_mem_nil, false_implies, implies_true, and_true]
        refine ⟨?_, ?_⟩
        · skip
          refine TAo.eff rfl rfl rfl rfl (Eff.val (fun _ h => by cases h) (Y.loadAgg rfl ag40 rfl (Cels.blk inn (cs := msgC 0 1 pf35 (.slice pa35 pl35.length pcap35)) (l := (idL pf35).map v8) (msg_id _ _ _ _)) (by first | rfl | ((try simp only [List.length_map, List.length_set, List.length_replicate]); omega)))) ?_
          rintro _ _ ⟨rfl, rfl⟩
          refine ⟨Or.inr (by repeat first | exact holds_nil | refine holds_cons inn ?_), ?_⟩
          refine TA.one 3 (by kernel_rfl) rfl rfl rfl rfl (X.call rfl Try.func25 (by kernel_rfl) rfl rfl (Fn.preE (by repeat first | (with_reducible apply Ent.refl) | (apply Ent.cons; case h => first | (with_reducible (repeat first | apply Pull.here | apply Pull.there); done) | (repeat first | apply Pull.here | apply Pull.there))) (stun.Mapped_fn _ _ _))) ?_
          rintro _ _ ⟨ma154, mc154, rfl, rfl⟩
          refine ⟨(Or.inr (by repeat first | exact holds_nil | refine holds_cons inn ?_)), ?_⟩
          refine TA.takeP 4 rfl rfl rfl rfl (by kernel_rfl) (by kernel_rfl) (by kernel_rfl) rfl (fun _ _ _ h => h) (Y.buildS (cells := #[v16 32, .slice ma154 (mapB ip port).length mc154]) rfl rfl pl76 zc76 (by kernel_rfl)) ?_
          refine TA.one 5 (by kernel_rfl) rfl rfl rfl rfl (X.litA (bytes := 0) (z := .nilFunc) rfl Try.underlying56 zs76 rfl rfl rfl (by decide) (by decide) (by decide) rfl (cells := [v16 32, .slice ma154 (mapB ip port).length mc154]) rfl rfl) ?_
          rintro _ _ ⟨g156, rfl, rfl⟩
          refine ⟨(Or.inr (by repeat first | exact holds_nil | refine holds_cons inn ?_)), ?_⟩
          refine TA.take 6 rfl rfl rfl rfl (by kernel_rfl) (by kernel_rfl) (by kernel_rfl) rfl (by kernel_rfl) (by kernel_rfl) (fun _ _ _ h => h) (Y.buildS (cells := msgC 2 1 pf35 (.slice (some ⟨g156, 0, none⟩) 1 1)) rfl rfl pl58 zc58 (by kernel_rfl)) ?_
          refine TA.to ((Ent.mkAt (t := 32) (a := ma154) (bs := mapB ip port) pul rfl).trans (Ent.trans Ent.rdss0 (Ent.trans (Ent.addEl (x := ((32 : UInt16), (⟨ma154, mc154, mapB ip port⟩ : Bs))) (ys := ([] : List At)) pul pul) (Ent.mkOwn (l := [((32 : UInt16), (⟨ma154, mc154, mapB ip port⟩ : Bs))]) (a := some ⟨g156, 0, none⟩) (n := 1) (cap := 1) pul pul rfl rfl rfl)))) ?_
          refine TA.one 11 (by kernel_rfl) rfl rfl rfl rfl (X.call rfl Try.func21 (by kernel_rfl) rfl rfl (Fn.preE (by repeat first | (with_reducible apply Ent.refl) | (apply Ent.cons; case h => first | (with_reducible (repeat first | apply Pull.here | apply Pull.there); done) | (repeat first | apply Pull.here | apply Pull.there))) (Sign_fn 2 1 pf35 (some ⟨g156, 0, none⟩) 1 [((32 : UInt16), (⟨ma154, mc154, mapB ip port⟩ : Bs))] _ _ _ pw rfl hpw _))) ?_
          rintro _ _ ⟨a162, c162, rfl, rfl⟩
          obtain ⟨s, hs, hsl⟩ := resp_some pf35 (some ⟨g156, 0, none⟩) 1 ma154 mc154 ip port pw
          rw [hs, show ob (some s) = s from rfl, show oe (some s) = 0 from rfl, hsl]
          refine ⟨(Or.inl (by kernel_rfl)), ?_⟩
          refine TA.takeP 12 rfl rfl rfl rfl (by kernel_rfl) (by kernel_rfl) (by kernel_rfl) rfl (fun _ _ _ h => h) (Y.move rfl rfl) ?_
          refine TA.takeP 13 rfl rfl rfl rfl (by kernel_rfl) (by kernel_rfl) (by kernel_rfl) rfl (fun _ _ _ h => h) (Y.extract rfl rfl rfl) ?_
          refine TA.takeP 14 rfl rfl rfl rfl (by kernel_rfl) (by kernel_rfl) (by kernel_rfl) rfl (fun _ _ _ h => h) (Y.extract rfl rfl rfl) ?_
          refine TA.takeP 15 rfl rfl rfl rfl (by kernel_rfl) (by kernel_rfl) (by kernel_rfl) rfl (fun _ _ _ h => h) (Y.assign rfl rfl) ?_
          refine TA.takeP 16 rfl rfl rfl rfl (by kernel_rfl) (by kernel_rfl) (by kernel_rfl) rfl (fun _ _ _ h => h) (Y.assign rfl rfl) ?_
          refine TA.done (by kernel_rfl) ?_
          refine TQ.next ?_
          refine TC.seq ?_
          refine TC.region ?_
          refine TL.val rfl rfl rfl (Y.move rfl rfl) ?_
          refine TL.val rfl rfl rfl (Y.assign rfl rfl) ?_
          refine TL.val rfl rfl rfl (Y.assign rfl rfl) ?_
          refine TL.nil ?_
          refine TQ.next ?_
          refine TC.ret ?_
          refine TQ.retE (res2 rfl rfl rfl) (⟨_, _, some ⟨kg, ko, none⟩, kc, rfl, rfl⟩) ?_
          exact ett
        · skip
          refine TAo.eff rfl rfl rfl rfl (X.call rfl Try.func25 (by kernel_rfl) rfl rfl (Fn.preE (by repeat first | (with_reducible apply Ent.refl) | (apply Ent.cons; case h => first | (with_reducible (repeat first | apply Pull.here | apply Pull.there); done) | (repeat first | apply Pull.here | apply Pull.there))) (stun.Mapped_fn _ _ _))) ?_
          rintro _ _ ⟨ma154, mc154, rfl, rfl⟩
          refine ⟨(Or.inr (by repeat first | exact holds_nil | refine holds_cons inn ?_)), ?_⟩
          refine TA.takeP 4 rfl rfl rfl rfl (by kernel_rfl) (by kernel_rfl) (by kernel_rfl) rfl (fun _ _ _ h => h) (Y.buildS (cells := #[v16 32, .slice ma154 (mapB ip port).length mc154]) rfl rfl pl76 zc76 (by kernel_rfl)) ?_
          refine TA.any (rs := [1, 5]) (by kernel_rfl) (by simp) ?_
          simp only [List.forall_mem_cons, List.not_mem_nil, false_implies, implies_true, and_true]
          refine ⟨?_, ?_⟩
          · skip
            refine TAo.eff rfl rfl rfl rfl (Eff.val (fun _ h => by cases h) (Y.loadAgg rfl ag40 rfl (Cels.blk inn (cs := msgC 0 1 pf35 (.slice pa35 pl35.length pcap35)) (l := (idL pf35).map v8) (msg_id _ _ _ _)) (by first | rfl | ((try simp only [List.length_map, List.length_set, List.length_replicate]); omega)))) ?_
            rintro _ _ ⟨rfl, rfl⟩
            refine ⟨Or.inr (by repeat first | exact holds_nil | refine holds_cons inn ?_), ?_⟩
            refine TA.one 5 (by kernel_rfl) rfl rfl rfl rfl (X.litA (bytes := 0) (z := .nilFunc) rfl Try.underlying56 zs76 rfl rfl rfl (by decide) (by decide) (by decide) rfl (cells := [v16 32, .slice ma154 (mapB ip port).length mc154]) rfl rfl) ?_
            rintro _ _ ⟨g156, rfl, rfl⟩
            refine ⟨(Or.inr (by repeat first | exact holds_nil | refine holds_cons inn ?_)), ?_⟩
            refine TA.take 6 rfl rfl rfl rfl (by kernel_rfl) (by kernel_rfl) (by kernel_rfl) rfl (by kernel_rfl) (by kernel_rfl) (fun _ _ _ h => h) (Y.buildS (cells := msgC 2 1 pf35 (.slice (some ⟨g156, 0, none⟩) 1 1)) rfl rfl pl58 zc58 (by kernel_rfl)) ?_
            refine TA.to ((Ent.mkAt (t := 32) (a := ma154) (bs := mapB ip port) pul rfl).trans (Ent.trans Ent.rdss0 (Ent.trans (Ent.addEl (x := ((32 : UInt16), (⟨ma154, mc154, mapB ip port⟩ : Bs))) (ys := ([] : List At)) pul pul) (Ent.mkOwn (l := [((32 : UInt16), (⟨ma154, mc154, mapB ip port⟩ : Bs))]) (a := some ⟨g156, 0, none⟩) (n := 1) (cap := 1) pul pul rfl rfl rfl)))) ?_
            refine TA.one 11 (by kernel_rfl) rfl rfl rfl rfl (X.call rfl Try.func21 (by kernel_rfl) rfl rfl (Fn.preE (by repeat first | (with_reducible apply Ent.refl) | (apply Ent.cons; case h => first | (with_reducible (repeat first | apply Pull.here | apply Pull.there); done) | (repeat first | apply Pull.here | apply Pull.there))) (Sign_fn 2 1 pf35 (some ⟨g156, 0, none⟩) 1 [((32 : UInt16), (⟨ma154, mc154, mapB ip port⟩ : Bs))] _ _ _ pw rfl hpw _))) ?_
            rintro _ _ ⟨a162, c162, rfl, rfl⟩
            obtain ⟨s, hs, hsl⟩ := resp_some pf35 (some ⟨g156, 0, none⟩) 1 ma154 mc154 ip port pw
            rw [hs, show ob (some s) = s from rfl, show oe (some s) = 0 from rfl, hsl]
            refine ⟨(Or.inl (by kernel_rfl)), ?_⟩
            refine TA.takeP 12 rfl rfl rfl rfl (by kernel_rfl) (by kernel_rfl) (by kernel_rfl) rfl (fun _ _ _ h => h) (Y.move rfl rfl) ?_
            refine TA.takeP 13 rfl rfl rfl rfl (by kernel_rfl) (by kernel_rfl) (by kernel_rfl) rfl (fun _ _ _ h => h) (Y.extract rfl rfl rfl) ?_
            refine TA.takeP 14 rfl rfl rfl rfl (by kernel_rfl) (by kernel_rfl) (by kernel_rfl) rfl (fun _ _ _ h => h) (Y.extract rfl rfl rfl) ?_
            refine TA.takeP 15 rfl rfl rfl rfl (by kernel_rfl) (by kernel_rfl) (by kernel_rfl) rfl (fun _ _ _ h => h) (Y.assign rfl rfl) ?_
            refine TA.takeP 16 rfl rfl rfl rfl (by kernel_rfl) (by kernel_rfl) (by kernel_rfl) rfl (fun _ _ _ h => h) (Y.assign rfl rfl) ?_
            refine TA.done (by kernel_rfl) ?_
            refine TQ.next ?_
            refine TC.seq ?_
            refine TC.region ?_
            refine TL.val rfl rfl rfl (Y.move rfl rfl) ?_
            refine TL.val rfl rfl rfl (Y.assign rfl rfl) ?_
            refine TL.val rfl rfl rfl (Y.assign rfl rfl) ?_
            refine TL.nil ?_
            refine TQ.next ?_
            refine TC.ret ?_
            refine TQ.retE (res2 rfl rfl rfl) (⟨_, _, some ⟨kg, ko, none⟩, kc, rfl, rfl⟩) ?_
            exact ett
          · skip
            refine TAo.eff rfl rfl rfl rfl (X.litA (bytes := 0) (z := .nilFunc) rfl Try.underlying56 zs76 rfl rfl rfl (by decide) (by decide) (by decide) rfl (cells := [v16 32, .slice ma154 (mapB ip port).length mc154]) rfl rfl) ?_
            rintro _ _ ⟨g156, rfl, rfl⟩
            refine ⟨(Or.inr (by repeat first | exact holds_nil | refine holds_cons inn ?_)), ?_⟩
            refine TA.one 1 (by kernel_rfl) rfl rfl rfl rfl (Eff.val (fun _ h => by cases h) (Y.loadAgg rfl ag40 rfl (Cels.blk inn (cs := msgC 0 1 pf35 (.slice pa35 pl35.length pcap35)) (l := (idL pf35).map v8) (msg_id _ _ _ _)) (by first | rfl | ((try simp only [List.length_map, List.length_set, List.length_replicate]); omega)))) ?_
            rintro _ _ ⟨rfl, rfl⟩
            refine ⟨Or.inr (by repeat first | exact holds_nil | refine holds_cons inn ?_), ?_⟩
            refine TA.take 6 rfl rfl rfl rfl (by kernel_rfl) (by kernel_rfl) (by kernel_rfl) rfl (by kernel_rfl) (by kernel_rfl) (fun _ _ _ h => h) (Y.buildS (cells := msgC 2 1 pf35 (.slice (some ⟨g156, 0, none⟩) 1 1)) rfl rfl pl58 zc58 (by kernel_rfl)) ?_
            refine TA.to ((Ent.mkAt (t := 32) (a := ma154) (bs := mapB ip port) pul rfl).trans (Ent.trans Ent.rdss0 (Ent.trans (Ent.addEl (x := ((32 : UInt16), (⟨ma154, mc154, mapB ip port⟩ : Bs))) (ys := ([] : List At)) pul pul) (Ent.mkOwn (l := [((32 : UInt16), (⟨ma154, mc154, mapB ip port⟩ : Bs))]) (a := some ⟨g156, 0, none⟩) (n := 1) (cap := 1) pul pul rfl rfl rfl)))) ?_
            refine TA.one 11 (by kernel_rfl) rfl rfl rfl rfl (X.call rfl Try.func21 (by kernel_rfl) rfl rfl (Fn.preE (by repeat first | (with_reducible apply Ent.refl) | (apply Ent.cons; case h => first | (with_reducible (repeat first | apply Pull.here | apply Pull.there); done) | (repeat first | apply Pull.here | apply Pull.there))) (Sign_fn 2 1 pf35 (some ⟨g156, 0, none⟩) 1 [((32 : UInt16), (⟨ma154, mc154, mapB ip port⟩ : Bs))] _ _ _ pw rfl hpw _))) ?_
            rintro _ _ ⟨a162, c162, rfl, rfl⟩
            obtain ⟨s, hs, hsl⟩ := resp_some pf35 (some ⟨g156, 0, none⟩) 1 ma154 mc154 ip port pw
            rw [hs, show ob (some s) = s from rfl, show oe (some s) = 0 from rfl, hsl]
            refine ⟨(Or.inl (by kernel_rfl)), ?_⟩
            refine TA.takeP 12 rfl rfl rfl rfl (by kernel_rfl) (by kernel_rfl) (by kernel_rfl) rfl (fun _ _ _ h => h) (Y.move rfl rfl) ?_
            refine TA.takeP 13 rfl rfl rfl rfl (by kernel_rfl) (by kernel_rfl) (by kernel_rfl) rfl (fun _ _ _ h => h) (Y.extract rfl rfl rfl) ?_
            refine TA.takeP 14 rfl rfl rfl rfl (by kernel_rfl) (by kernel_rfl) (by kernel_rfl) rfl (fun _ _ _ h => h) (Y.extract rfl rfl rfl) ?_
            refine TA.takeP 15 rfl rfl rfl rfl (by kernel_rfl) (by kernel_rfl) (by kernel_rfl) rfl (fun _ _ _ h => h) (Y.assign rfl rfl) ?_
            refine TA.takeP 16 rfl rfl rfl rfl (by kernel_rfl) (by kernel_rfl) (by kernel_rfl) rfl (fun _ _ _ h => h) (Y.assign rfl rfl) ?_
            refine TA.done (by kernel_rfl) ?_
            refine TQ.next ?_
            refine TC.seq ?_
            refine TC.region ?_
            refine TL.val rfl rfl rfl (Y.move rfl rfl) ?_
            refine TL.val rfl rfl rfl (Y.assign rfl rfl) ?_
            refine TL.val rfl rfl rfl (Y.assign rfl rfl) ?_
            refine TL.nil ?_
            refine TQ.next ?_
            refine TC.ret ?_
            refine TQ.retE (res2 rfl rfl rfl) (⟨_, _, some ⟨kg, ko, none⟩, kc, rfl, rfl⟩) ?_
            exact ett
theorem Handle_full (f : Nat → UInt8) (ps : List PA) (hpr : PR b 0 1 f ps 0) (hall : AllOk name pw b ps) (hfi : l.findIdx? (eqA (ip, port)) = none) (hl4 : l.length = 4) (L : List SA) :
    Fn Try.prog 9 [pt ab 0, .slice a n cap, .agg #[v32 ip, v16 port], vI now] (SA.blk ab (agC na name.length nc pa pw.length pc la l.length lc clk) 55 :: SA.owns 70 4 (.slice la l.length lc) l.length (Dat.cs l) :: SA.rds 1 (.slice na name.length nc) name.length (name.map v8) :: SA.rds 1 (.slice pa pw.length pc) pw.length (pw.map v8) :: SA.rds 1 (.slice a n cap) n (b.map v8) :: L)
      (fun v L' => v = .tuple #[.slice none 0 0, vN 6] ∧ L' = SA.blk ab (agC na name.length nc pa pw.length pc la l.length lc (max clk now)) 55 :: SA.owns 70 4 (.slice la l.length lc) l.length (Dat.cs l) :: SA.rds 1 (.slice na name.length nc) name.length (name.map v8) :: SA.rds 1 (.slice pa pw.length pc) pw.length (pw.map v8) :: SA.rds 1 (.slice a n cap) n (b.map v8) :: L) := by
  refine Fn.of (N := 166) Try.func9 rfl rfl ?_
  intro Xh
  refine TC.seq ?_
  refine TC.region ?_
  refine TL.eff rfl rfl rfl (X.boxA rfl rfl) ?_
  rintro _ _ ⟨b6, rfl, rfl⟩
  refine TL.val rfl rfl rfl (Y.assign rfl rfl) ?_
  refine TL.val rfl rfl rfl (Y.assign rfl rfl) ?_
  refine TL.nil ?_
  refine TQ.next ?_
  refine TC.seq ?_
  refine TC.seq ?_
  refine TC.region ?_
  refine TL.val rfl rfl rfl (Y.move rfl rfl) ?_
  refine TL.val rfl rfl rfl (by first | exact Y.eqNilP rfl Try.underlying24 rfl rfl | exact Y.eqNil0 rfl Try.underlying24 rfl rfl) ?_
  refine TL.nil ?_
  refine TQ.next ?_
  refine TC.cond_f rfl ?_
  refine TC.skip ?_
  refine TQ.next ?_
  refine TC.seq ?_
  refine TC.region ?_
  refine TL.val rfl rfl rfl (Y.move rfl rfl) ?_
  refine TL.val rfl rfl rfl (Y.move rfl rfl) ?_
  refine TL.val rfl rfl rfl (Y.nilCheck rfl rfl) ?_
  refine TL.val rfl rfl rfl (by first | exact Y.fieldAddrJ rfl fo55_3 rfl nqq | exact Y.fieldAddr rfl fo55_3 rfl nqq) ?_
  refine TL.val rfl rfl rfl (Y.load rfl sc2 rfl celN) ?_
  refine TL.as (vI clk) (by rfl) ?_
  refine TL.val rfl rfl rfl (Y.move rfl rfl) ?_
  refine TL.val rfl rfl rfl (Y.maxI rfl rfl rfl) ?_
  refine TL.val rfl rfl rfl (Y.nilCheck rfl rfl) ?_
  refine TL.val rfl rfl rfl (by first | exact Y.fieldAddrJ rfl fo55_3 rfl nqq | exact Y.fieldAddr rfl fo55_3 rfl nqq) ?_
  refine TL.eff0 rfl rfl (X.store (cs' := agC na name.length nc pa pw.length pc la l.length lc (max clk now)) rfl (by kernel_rfl) rfl rfl rfl pul (by show _ < 4; decide) rfl) ?_
  rintro _ _ rfl
  refine TL.nil ?_
  refine TQ.next ?_
  refine TC.seq ?_
  refine TC.region ?_
  refine TL.val rfl rfl rfl (Y.move rfl rfl) ?_
  refine TL.eff rfl rfl rfl (X.call rfl Try.func17 (by kernel_rfl) rfl rfl (Fn.preE (by repeat first | (with_reducible apply Ent.refl) | (apply Ent.cons; case h => first | (with_reducible (repeat first | apply Pull.here | apply Pull.there); done) | (repeat first | apply Pull.here | apply Pull.there))) (Parse_fn a n cap b hn hr _))) ?_
  rintro _ _ ⟨pc35, pm35, pf35, pa35, pcap35, pl35, pe35, rfl, hP35, rfl⟩
  obtain ⟨e1, e2, hid, hl35, e5⟩ := PR.one hP35 hpr
  subst e1; subst e2; subst e5
  rw [← hl35] at hall
  have hb35 := PR.small hP35
  refine TL.val rfl rfl rfl (Y.move rfl rfl) ?_
  refine TL.val rfl rfl rfl (Y.extract rfl rfl rfl) ?_
  refine TL.val rfl rfl rfl (Y.extract rfl rfl rfl) ?_
  refine TL.eff rfl rfl rfl (X.alloc rfl zc58) ?_
  rintro _ _ ⟨b10, rfl, rfl⟩
  refine TL.eff0 rfl rfl (X.storeAll rfl (by kernel_rfl) (msgC_size _ _ _ _) rfl rfl (msg_one _ _ _ _ _ _) pul rfl) ?_
  rintro _ _ rfl
  refine TL.val rfl rfl rfl (Y.assign rfl rfl) ?_
  refine TL.nil ?_
  refine TQ.next ?_
  refine TC.seq ?_
  refine TC.seq ?_
  refine TC.region ?_
  refine TL.val rfl rfl rfl (Y.move rfl rfl) ?_
  refine TL.val rfl rfl rfl (Y.bin rfl rfl rfl (br_neN (n := 0))) ?_
  refine TL.is false (by first | rfl | (simp only [decide_eq_true_eq, decide_eq_false_iff_not, Bool.not_eq_true', Bool.not_eq_false', Bool.not_eq_eq_eq_not, Bool.not_true, Bool.not_false, Nat.not_lt, Nat.not_le]; omega) | (simp [*]; done) | (simp; omega)) ?_
  refine TL.nil ?_
  refine TQ.next ?_
  refine TC.cond_f rfl ?_
  refine TC.skip ?_
  refine TQ.next ?_
  refine TC.seq ?_
  refine TC.seq ?_
  refine TC.region ?_
  refine TL.val rfl rfl rfl (by first | exact Y.fieldAddrJ rfl fo58_0 rfl nqq | exact Y.fieldAddr rfl fo58_0 rfl nqq) ?_
  refine TL.val rfl rfl rfl (Y.load rfl sc3 rfl celN) ?_
  refine TL.val rfl rfl rfl (Y.bin rfl rfl rfl (br_neI (n := 0))) ?_
  refine TL.is false (by first | rfl | (simp only [decide_eq_true_eq, decide_eq_false_iff_not, Bool.not_eq_true', Bool.not_eq_false', Bool.not_eq_eq_eq_not, Bool.not_true, Bool.not_false, Nat.not_lt, Nat.not_le]; omega) | (simp [*]; done) | (simp; omega)) ?_
  refine TL.val rfl rfl rfl (Y.move rfl rfl) ?_
  refine TL.valG rfl rfl rfl (by first | exact Y.fieldAddrJ rfl fo58_1 rfl nqq | exact Y.fieldAddr rfl fo58_1 rfl nqq) ?_
  refine TL.valG rfl rfl rfl (Y.load rfl sc3 rfl celN) ?_
  refine TL.valG rfl rfl rfl (Y.bin rfl rfl rfl (br_neI (n := 1))) ?_
  refine TL.is false (by first | rfl | (simp only [decide_eq_true_eq, decide_eq_false_iff_not, Bool.not_eq_true', Bool.not_eq_false', Bool.not_eq_eq_eq_not, Bool.not_true, Bool.not_false, Nat.not_lt, Nat.not_le]; omega) | (simp [*]; done) | (simp; omega)) ?_
  refine TL.val rfl rfl rfl (Y.pick_f rfl rfl rfl) ?_
  refine TL.nil ?_
  refine TQ.next ?_
  refine TC.cond_f rfl ?_
  refine TC.skip ?_
  refine TQ.next ?_
  refine TC.seq ?_
  refine TC.seq ?_
  refine TC.region ?_
  refine TL.val rfl rfl rfl (Y.move rfl rfl) ?_
  refine TL.val rfl rfl rfl (Y.move rfl rfl) ?_
  refine TL.val rfl rfl rfl (Y.loadAgg rfl ag58 rfl (Cels.all (cs := msgC 0 1 pf35 (.slice pa35 pl35.length pcap35)) inn) (by first | rfl | ((try simp only [List.length_map, List.length_set, List.length_replicate]); omega))) ?_
  refine TL.as (.agg (msgC 0 1 pf35 (.slice pa35 pl35.length pcap35))) (by rfl) ?_
  refine TL.eff rfl rfl rfl (X.call rfl Try.func18 (by kernel_rfl) rfl rfl (Fn.preE (by repeat first | (with_reducible apply Ent.refl) | (apply Ent.cons; case h => first | (with_reducible (repeat first | apply Pull.here | apply Pull.there); done) | (repeat first | apply Pull.here | apply Pull.there))) (ask_ok ab na nc name pa pc pw la l.length lc (max clk now) a n cap b hn hr hpw 0 1 pf35 pa35 pcap35 pl35 hb35 hall _))) ?_
  rintro _ _ ⟨rfl, rfl⟩
  refine TL.val rfl rfl rfl (Y.assign rfl rfl) ?_
  refine TL.nil ?_
  refine TQ.next ?_
  refine TC.seq ?_
  refine TC.region ?_
  refine TL.val rfl rfl rfl (Y.move rfl rfl) ?_
  refine TL.val rfl rfl rfl (by first | exact Y.neNilP rfl Try.underlying61 rfl rfl | exact Y.neNil0 rfl Try.underlying61 rfl rfl) ?_
  refine TL.nil ?_
  refine TQ.next ?_
  refine TC.cond_f rfl ?_
  refine TC.skip ?_
  refine TQ.next ?_
  refine TC.seq ?_
  refine TC.region ?_
  refine TL.val rfl rfl rfl (Y.move rfl rfl) ?_
  refine TL.val rfl rfl rfl (Y.nilCheck rfl rfl) ?_
  refine TL.val rfl rfl rfl (by first | exact Y.fieldAddrJ rfl fo55_2 rfl nqq | exact Y.fieldAddr rfl fo55_2 rfl nqq) ?_
  refine TL.val rfl rfl rfl (Y.load rfl sc48 rfl celD) ?_
  refine TL.as (.slice la l.length lc) (by rfl) ?_
  refine TL.val rfl rfl rfl (Y.makeFunc rfl rfl rfl) ?_
  refine TL.eff rfl rfl rfl (X.call rfl Try.func22 (by kernel_rfl) rfl rfl (Fn.preE (by repeat first | (with_reducible apply Ent.refl) | (apply Ent.cons; case h => first | (with_reducible (repeat first | apply Pull.here | apply Pull.there); done) | (repeat first | apply Pull.here | apply Pull.there))) (ixp.IndexFunc_fn (SA.owns 70 4 (.slice la l.length lc) l.length (Dat.cs l)) la l.length lc l Reads.owns rfl rfl 23 _ [] [pt b6 0] (eqA (ip, port)) (SA.blk b6 #[v32 ip, v16 port] 28 :: _) Try.func23 (by kernel_rfl) rfl (fun x _ => h1_any _ x ip port b6 _)))) ?_
  rintro _ _ ⟨rfl, rfl⟩
  refine TL.val rfl rfl rfl (Y.assign rfl rfl) ?_
  refine TL.nil ?_
  refine TQ.next ?_
  refine TC.seq ?_
  refine TC.seq ?_
  refine TC.region ?_
  refine TL.val rfl rfl rfl (Y.move rfl rfl) ?_
  refine TL.val rfl rfl rfl (Y.bin rfl rfl rfl (br_ltI (n := 0))) ?_
  refine TL.is true (by rw [(idx_none hfi).1]; rfl) ?_
  refine TL.nil ?_
  refine TQ.next ?_
  refine TC.cond_t rfl ?_
  refine TC.seq ?_
  refine TC.seq ?_
  refine TC.region ?_
  refine TL.val rfl rfl rfl (Y.move rfl rfl) ?_
  refine TL.val rfl rfl rfl (Y.nilCheck rfl rfl) ?_
  refine TL.val rfl rfl rfl (by first | exact Y.fieldAddrJ rfl fo55_2 rfl nqq | exact Y.fieldAddr rfl fo55_2 rfl nqq) ?_
  refine TL.val rfl rfl rfl (Y.load rfl sc48 rfl celD) ?_
  refine TL.as (.slice la l.length lc) (by rfl) ?_
  refine TL.val rfl rfl rfl (Y.len rfl Try.underlying48 rfl) ?_
  refine TL.val rfl rfl rfl (Y.bin rfl rfl rfl (br_eqN (n := 4))) ?_
  refine TL.is true (by first | rfl | (simp only [decide_eq_true_eq, decide_eq_false_iff_not, Bool.not_eq_true', Bool.not_eq_false', Bool.not_eq_eq_eq_not, Bool.not_true, Bool.not_false, Nat.not_lt, Nat.not_le]; omega) | (simp [*]; done) | (simp; omega)) ?_
  refine TL.nil ?_
  refine TQ.next ?_
  refine TC.cond_t rfl ?_
  refine TC.seq ?_
  refine TC.region ?_
  refine TL.val rfl rfl rfl (Y.assign rfl rfl) ?_
  refine TL.val rfl rfl rfl (Y.assign rfl rfl) ?_
  refine TL.nil ?_
  refine TQ.next ?_
  refine TC.ret ?_
  refine TQ.then_ret ?_
  refine TQ.then_ret ?_
  refine TQ.retE (res2 rfl rfl rfl) (⟨rfl, rfl⟩) ?_
  exact ett
theorem Handle_no (hbad : ∀ f ps, PR b 0 1 f ps 0 → ¬ AllOk name pw b ps) (L : List SA) :
    Fn Try.prog 9 [pt ab 0, .slice a n cap, .agg #[v32 ip, v16 port], vI now] (SA.blk ab (agC na name.length nc pa pw.length pc la l.length lc clk) 55 :: SA.owns 70 4 (.slice la l.length lc) l.length (Dat.cs l) :: SA.rds 1 (.slice na name.length nc) name.length (name.map v8) :: SA.rds 1 (.slice pa pw.length pc) pw.length (pw.map v8) :: SA.rds 1 (.slice a n cap) n (b.map v8) :: L)
      (fun v L' => ∃ oa on oc e, v = .tuple #[.slice oa on oc, vN e] ∧ e ≠ 0 ∧ L' = SA.blk ab (agC na name.length nc pa pw.length pc la l.length lc (max clk now)) 55 :: SA.owns 70 4 (.slice la l.length lc) l.length (Dat.cs l) :: SA.rds 1 (.slice na name.length nc) name.length (name.map v8) :: SA.rds 1 (.slice pa pw.length pc) pw.length (pw.map v8) :: SA.rds 1 (.slice a n cap) n (b.map v8) :: L) := by
  refine Fn.of (N := 166) Try.func9 rfl rfl ?_
  intro Xh
  refine TC.seq ?_
  refine TC.region ?_
  refine TL.eff rfl rfl rfl (X.boxA rfl rfl) ?_
  rintro _ _ ⟨b6, rfl, rfl⟩
  refine TL.val rfl rfl rfl (Y.assign rfl rfl) ?_
  refine TL.val rfl rfl rfl (Y.assign rfl rfl) ?_
  refine TL.nil ?_
  refine TQ.next ?_
  refine TC.seq ?_
  refine TC.seq ?_
  refine TC.region ?_
  refine TL.val rfl rfl rfl (Y.move rfl rfl) ?_
  refine TL.val rfl rfl rfl (by first | exact Y.eqNilP rfl Try.underlying24 rfl rfl | exact Y.eqNil0 rfl Try.underlying24 rfl rfl) ?_
  refine TL.nil ?_
  refine TQ.next ?_
  refine TC.cond_f rfl ?_
  refine TC.skip ?_
  refine TQ.next ?_
  refine TC.seq ?_
  refine TC.region ?_
  refine TL.val rfl rfl rfl (Y.move rfl rfl) ?_
  refine TL.val rfl rfl rfl (Y.move rfl rfl) ?_
  refine TL.val rfl rfl rfl (Y.nilCheck rfl rfl) ?_
  refine TL.val rfl rfl rfl (by first | exact Y.fieldAddrJ rfl fo55_3 rfl nqq | exact Y.fieldAddr rfl fo55_3 rfl nqq) ?_
  refine TL.val rfl rfl rfl (Y.load rfl sc2 rfl celN) ?_
  refine TL.as (vI clk) (by rfl) ?_
  refine TL.val rfl rfl rfl (Y.move rfl rfl) ?_
  refine TL.val rfl rfl rfl (Y.maxI rfl rfl rfl) ?_
  refine TL.val rfl rfl rfl (Y.nilCheck rfl rfl) ?_
  refine TL.val rfl rfl rfl (by first | exact Y.fieldAddrJ rfl fo55_3 rfl nqq | exact Y.fieldAddr rfl fo55_3 rfl nqq) ?_
  refine TL.eff0 rfl rfl (X.store (cs' := agC na name.length nc pa pw.length pc la l.length lc (max clk now)) rfl (by kernel_rfl) rfl rfl rfl pul (by show _ < 4; decide) rfl) ?_
  rintro _ _ rfl
  refine TL.nil ?_
  refine TQ.next ?_
  refine TC.seq ?_
  refine TC.region ?_
  refine TL.val rfl rfl rfl (Y.move rfl rfl) ?_
  refine TL.eff rfl rfl rfl (X.call rfl Try.func17 (by kernel_rfl) rfl rfl (Fn.preE (by repeat first | (with_reducible apply Ent.refl) | (apply Ent.cons; case h => first | (with_reducible (repeat first | apply Pull.here | apply Pull.there); done) | (repeat first | apply Pull.here | apply Pull.there))) (Parse_fn a n cap b hn hr _))) ?_
  rintro _ _ ⟨pc35, pm35, pf35, pa35, pcap35, pl35, pe35, rfl, hP35, rfl⟩
  have hb35 := PR.small hP35
  refine TL.val rfl rfl rfl (Y.move rfl rfl) ?_
  refine TL.val rfl rfl rfl (Y.extract rfl rfl rfl) ?_
  refine TL.val rfl rfl rfl (Y.extract rfl rfl rfl) ?_
  refine TL.eff rfl rfl rfl (X.alloc rfl zc58) ?_
  rintro _ _ ⟨b10, rfl, rfl⟩
  refine TL.eff0 rfl rfl (X.storeAll rfl (by kernel_rfl) (msgC_size _ _ _ _) rfl rfl (msg_one _ _ _ _ _ _) pul rfl) ?_
  rintro _ _ rfl
  refine TL.val rfl rfl rfl (Y.assign rfl rfl) ?_
  refine TL.nil ?_
  refine TQ.next ?_
  refine TC.seq ?_
  refine TC.seq ?_
  refine TC.region ?_
  refine TL.val rfl rfl rfl (Y.move rfl rfl) ?_
  refine TL.val rfl rfl rfl (Y.bin rfl rfl rfl (br_neN (n := 0))) ?_
  refine TL.nil ?_
  refine TQ.next ?_
  refine TC.cond rfl (fun c1 => ?_) (fun c1 => ?_)
  · try simp only [decide_eq_true_eq, decide_eq_false_iff_not, Bool.not_eq_true', Bool.not_eq_false', Bool.and_eq_true, Bool.or_eq_true, Nat.not_lt, Nat.not_le, beq_iff_eq, bne_iff_ne] at c1
    refine TC.seq ?_
    refine TC.region ?_
    refine TL.val rfl rfl rfl (Y.move rfl rfl) ?_
    refine TL.val rfl rfl rfl (Y.assign rfl rfl) ?_
    refine TL.val rfl rfl rfl (Y.assign rfl rfl) ?_
    refine TL.nil ?_
    have he : pe35 ≠ 0 := c1
    refine TQ.next ?_
    refine TC.ret ?_
    refine TQ.then_ret ?_
    refine TQ.retE (res2 rfl rfl rfl) (⟨_, _, _, _, rfl, he, rfl⟩) ?_
    exact ett
  · try simp only [decide_eq_true_eq, decide_eq_false_iff_not, Bool.not_eq_true', Bool.not_eq_false', Bool.and_eq_true, Bool.or_eq_true, Nat.not_lt, Nat.not_le, beq_iff_eq, bne_iff_ne] at c1
    refine TC.skip ?_
    refine TQ.next ?_
    refine TC.seq ?_
    refine TC.seq ?_
    refine TC.region ?_
    refine TL.val rfl rfl rfl (by first | exact Y.fieldAddrJ rfl fo58_0 rfl nqq | exact Y.fieldAddr rfl fo58_0 rfl nqq) ?_
    refine TL.val rfl rfl rfl (Y.load rfl sc3 rfl celN) ?_
    refine TL.val rfl rfl rfl (Y.bin rfl rfl rfl (br_neI (n := 0))) ?_
    refine TL.val rfl rfl rfl (Y.move rfl rfl) ?_
    refine TL.case (fun g7_3 => ?_) (fun g7_3 => ?_)
    · try simp only [decide_eq_true_eq, decide_eq_false_iff_not, Bool.not_eq_true', Bool.not_eq_false', Nat.not_lt, Nat.not_le, beq_iff_eq, bne_iff_ne] at g7_3
      refine TL.not rfl rfl rfl ?_
      refine TL.not rfl rfl rfl ?_
      refine TL.not rfl rfl rfl ?_
      refine TL.val rfl rfl rfl (Y.pick_t rfl rfl rfl) ?_
      refine TL.nil ?_
      refine TQ.next ?_
      refine TC.cond_t rfl ?_
      refine TC.seq ?_
      refine TC.region ?_
      refine TL.val rfl rfl rfl (Y.assign rfl rfl) ?_
      refine TL.val rfl rfl rfl (Y.assign rfl rfl) ?_
      refine TL.nil ?_
      have he : (1 : Nat) ≠ 0 := by decide
      refine TQ.next ?_
      refine TC.ret ?_
      refine TQ.then_ret ?_
      refine TQ.retE (res2 rfl rfl rfl) (⟨_, _, _, _, rfl, he, rfl⟩) ?_
      exact ett
    · try simp only [decide_eq_true_eq, decide_eq_false_iff_not, Bool.not_eq_true', Bool.not_eq_false', Nat.not_lt, Nat.not_le, beq_iff_eq, bne_iff_ne] at g7_3
      refine TL.valG rfl rfl rfl (by first | exact Y.fieldAddrJ rfl fo58_1 rfl nqq | exact Y.fieldAddr rfl fo58_1 rfl nqq) ?_
      refine TL.valG rfl rfl rfl (Y.load rfl sc3 rfl celN) ?_
      refine TL.valG rfl rfl rfl (Y.bin rfl rfl rfl (br_neI (n := 1))) ?_
      refine TL.val rfl rfl rfl (Y.pick_f rfl rfl rfl) ?_
      refine TL.nil ?_
      refine TQ.next ?_
      refine TC.cond rfl (fun c2 => ?_) (fun c2 => ?_)
      · try simp only [decide_eq_true_eq, decide_eq_false_iff_not, Bool.not_eq_true', Bool.not_eq_false', Bool.and_eq_true, Bool.or_eq_true, Nat.not_lt, Nat.not_le, beq_iff_eq, bne_iff_ne] at c2
        refine TC.seq ?_
        refine TC.region ?_
        refine TL.val rfl rfl rfl (Y.assign rfl rfl) ?_
        refine TL.val rfl rfl rfl (Y.assign rfl rfl) ?_
        refine TL.nil ?_
        have he : (1 : Nat) ≠ 0 := by decide
        refine TQ.next ?_
        refine TC.ret ?_
        refine TQ.then_ret ?_
        refine TQ.retE (res2 rfl rfl rfl) (⟨_, _, _, _, rfl, he, rfl⟩) ?_
        exact ett
      · try simp only [decide_eq_true_eq, decide_eq_false_iff_not, Bool.not_eq_true', Bool.not_eq_false', Bool.and_eq_true, Bool.or_eq_true, Nat.not_lt, Nat.not_le, beq_iff_eq, bne_iff_ne] at c2
        obtain rfl : pe35 = 0 := c1
        obtain rfl : pc35 = 0 := g7_3
        obtain rfl : pm35 = 1 := c2
        have hno := hbad pf35 _ hP35
        refine TC.skip ?_
        refine TQ.next ?_
        refine TC.seq ?_
        refine TC.seq ?_
        refine TC.region ?_
        refine TL.val rfl rfl rfl (Y.move rfl rfl) ?_
        refine TL.val rfl rfl rfl (Y.move rfl rfl) ?_
        refine TL.val rfl rfl rfl (Y.loadAgg rfl ag58 rfl (Cels.all (cs := msgC 0 1 pf35 (.slice pa35 pl35.length pcap35)) inn) (by first | rfl | ((try simp only [List.length_map, List.length_set, List.length_replicate]); omega))) ?_
        refine TL.as (.agg (msgC 0 1 pf35 (.slice pa35 pl35.length pcap35))) (by rfl) ?_
        refine TL.eff rfl rfl rfl (X.call rfl Try.func18 (by kernel_rfl) rfl rfl (Fn.preE (by repeat first | (with_reducible apply Ent.refl) | (apply Ent.cons; case h => first | (with_reducible (repeat first | apply Pull.here | apply Pull.there); done) | (repeat first | apply Pull.here | apply Pull.there))) (ask_no ab na nc name pa pc pw la l.length lc (max clk now) a n cap b hn hr hpw 0 1 pf35 pa35 pcap35 pl35 hb35 hno _))) ?_
        rintro _ _ ⟨r52, rcode, rs, re, rfl, hrc, hre, rfl⟩
        refine TL.val rfl rfl rfl (Y.assign rfl rfl) ?_
        refine TL.nil ?_
        refine TQ.next ?_
        refine TC.seq ?_
        refine TC.region ?_
        refine TL.val rfl rfl rfl (Y.move rfl rfl) ?_
        refine TL.val rfl rfl rfl (by first | exact Y.neNilP rfl Try.underlying61 rfl rfl | exact Y.neNil0 rfl Try.underlying61 rfl rfl) ?_
        refine TL.nil ?_
        refine TQ.next ?_
        refine TC.cond_t rfl ?_
        refine TC.cutF (ι := Nat × Option Addr × (Option Addr × Nat)) [] (fun _ => True) (fun i => [(13, some (pt i.1 0))]) (fun i => [SA.blk i.1 (msgC 3 1 pf35 (.slice i.2.1 1 1)) 58, SA.dat (⟨i.2.1, 1, [failM rcode i.2.2]⟩ : Sl At)]) (Ao := []) Pulls.nil ?_ ?_
        · rintro L' hL'
          simp only [List.cons_append, List.nil_append] at hL'
          subst hL'
          refine TC.draws 7 [SA.blk b10 (msgC 0 1 pf35 (.slice pa35 pl35.length pcap35)) 58, SA.blk r52 #[vN rcode, .bool rs, vN re] 65] (by kernel_rfl) (by kernel_rfl) (by repeat first | exact holds_nil | refine holds_cons inn ?_) ?_
          refine TA.take 0 rfl rfl rfl rfl (by kernel_rfl) (by kernel_rfl) (by kernel_rfl) rfl (by kernel_rfl) (by kernel_rfl) (fun _ _ _ h => h) (Y.loadAgg rfl ag58 rfl (Cels.all (cs := msgC 0 1 pf35 (.slice pa35 pl35.length pcap35)) inn) (by first | rfl | ((try simp only [List.length_map, List.length_set, List.length_replicate]); omega))) ?_
          refine TA.as (.agg (msgC 0 1 pf35 (.slice pa35 pl35.length pcap35))) (by rfl) ?_
          refine TA.take 1 rfl rfl rfl rfl (by kernel_rfl) (by kernel_rfl) (by kernel_rfl) rfl (by kernel_rfl) (by kernel_rfl) (fun _ _ _ h => h) (Y.move rfl rfl) ?_
          refine TA.take 2 rfl rfl rfl rfl (by kernel_rfl) (by kernel_rfl) (by kernel_rfl) rfl (by kernel_rfl) (by kernel_rfl) (fun _ _ _ h => h) (Y.nilCheck rfl rfl) ?_
          refine TA.take 3 rfl rfl rfl rfl (by kernel_rfl) (by kernel_rfl) (by kernel_rfl) rfl (by kernel_rfl) (by kernel_rfl) (fun _ _ _ h => h) (by first | exact Y.fieldAddrJ rfl fo65_0 rfl nqq | exact Y.fieldAddr rfl fo65_0 rfl nqq) ?_
          refine TA.take 4 rfl rfl rfl rfl (by kernel_rfl) (by kernel_rfl) (by kernel_rfl) rfl (by kernel_rfl) (by kernel_rfl) (fun _ _ _ h => h) (Y.load rfl sc3 rfl celN) ?_
          refine TA.as (vI rcode) (by rfl) ?_
          refine TA.any (rs := [5, 6]) (by kernel_rfl) (by simp) ?_
          simp only [List.forall_mem_cons, List.not_mem_nil, false_implies, implies_true, and_true]
          refine ⟨?_, ?_⟩
          · skip
            refine TAo.eff rfl rfl rfl rfl (X.call rfl Try.func19 (by kernel_rfl) rfl rfl (Fn.preE (by repeat first | (with_reducible apply Ent.refl) | (apply Ent.cons; case h => first | (with_reducible (repeat first | apply Pull.here | apply Pull.there); done) | (repeat first | apply Pull.here | apply Pull.there))) (Failure_fn 0 1 pf35 (.slice pa35 pl35.length pcap35) rcode (by omega) (by omega) _))) ?_
            rintro _ _ ⟨xa60, xs60, rfl, rfl⟩
            refine ⟨(Or.inr (by repeat first | exact holds_nil | refine holds_cons inn ?_)), ?_⟩
            refine TA.one 6 (by kernel_rfl) rfl rfl rfl rfl (X.alloc rfl zc58) ?_
            rintro _ _ ⟨b13, rfl, rfl⟩
            refine ⟨(Or.inr (by repeat first | exact holds_nil | refine holds_cons inn ?_)), ?_⟩
            refine TA.one0 7 (by kernel_rfl) rfl rfl rfl (X.storeAll rfl (by kernel_rfl) (msgC_size _ _ _ _) rfl rfl (msg_one _ _ _ _ _ _) pul rfl) ?_
            rintro _ _ rfl
            refine ⟨(Or.inl (by kernel_rfl)), ?_⟩
            refine TA.done (by kernel_rfl) ?_
            refine TQ.meetF ((b13, xa60, xs60)) (trivial) ⟨rfl, trivial⟩ (by (repeat first | apply Grow.refl | apply Grow.step | apply Grow.app)) ?_ ?_
            · kernel_rfl
            · simp only [List.cons_append, List.nil_append]
              exact ett
          · skip
            refine TAo.eff rfl rfl rfl rfl (X.alloc rfl zc58) ?_
            rintro _ _ ⟨b13, rfl, rfl⟩
            refine ⟨(Or.inr (by repeat first | exact holds_nil | refine holds_cons inn ?_)), ?_⟩
            refine TA.one 5 (by kernel_rfl) rfl rfl rfl rfl (X.call rfl Try.func19 (by kernel_rfl) rfl rfl (Fn.preE (by repeat first | (with_reducible apply Ent.refl) | (apply Ent.cons; case h => first | (with_reducible (repeat first | apply Pull.here | apply Pull.there); done) | (repeat first | apply Pull.here | apply Pull.there))) (Failure_fn 0 1 pf35 (.slice pa35 pl35.length pcap35) rcode (by omega) (by omega) _))) ?_
            rintro _ _ ⟨xa60, xs60, rfl, rfl⟩
            refine ⟨(Or.inr (by repeat first | exact holds_nil | refine holds_cons inn ?_)), ?_⟩
            refine TA.one0 7 (by kernel_rfl) rfl rfl rfl (X.storeAll rfl (by kernel_rfl) (msgC_size _ _ _ _) rfl rfl (msg_one _ _ _ _ _ _) pul rfl) ?_
            rintro _ _ rfl
            refine ⟨(Or.inl (by kernel_rfl)), ?_⟩
            refine TA.done (by kernel_rfl) ?_
            refine TQ.meetF ((b13, xa60, xs60)) (trivial) ⟨rfl, trivial⟩ (by (repeat first | apply Grow.refl | apply Grow.step | apply Grow.app)) ?_ ?_
            · kernel_rfl
            · simp only [List.cons_append, List.nil_append]
              exact ett
        · rintro ⟨b13, xa60, xs60⟩ - F' L' rfl hL'
          simp only [List.cons_append, List.nil_append] at hL'
          subst hL'
          refine TC.seq ?_
          refine TC.region ?_
          refine TL.val rfl rfl rfl (Y.loadAgg rfl ag58 rfl (Cels.all (cs := msgC 3 1 pf35 (.slice xa60 1 1)) inn) (by first | rfl | ((try simp only [List.length_map, List.length_set, List.length_replicate]); omega))) ?_
          refine TL.as (.agg (msgC 3 1 pf35 (.slice xa60 1 1))) (by rfl) ?_
          refine TL.eff rfl rfl rfl (X.call rfl Try.func20 (by kernel_rfl) rfl rfl (Fn.preE (by repeat first | (with_reducible apply Ent.refl) | (apply Ent.cons; case h => first | (with_reducible (repeat first | apply Pull.here | apply Pull.there); done) | (repeat first | apply Pull.here | apply Pull.there))) (Build_fn 3 1 pf35 xa60 1 [failM rcode xs60] _))) ?_
          rintro _ _ ⟨a63, c63, rfl, rfl⟩
          refine TL.val rfl rfl rfl (Y.move rfl rfl) ?_
          refine TL.val rfl rfl rfl (Y.extract rfl rfl rfl) ?_
          refine TL.val rfl rfl rfl (Y.extract rfl rfl rfl) ?_
          refine TL.val rfl rfl rfl (Y.assign rfl rfl) ?_
          refine TL.val rfl rfl rfl (Y.assign rfl rfl) ?_
          refine TL.nil ?_
          refine TQ.next ?_
          refine TC.cutF (ι := Option Addr × Nat × Nat) [] (fun _ => True) (fun i => [(14, some (.slice i.1 i.2.1 i.2.2))]) (fun i => []) (Ao := []) Pulls.nil ?_ ?_
          · rintro L' hL'
            simp only [List.cons_append, List.nil_append] at hL'
            subst hL'
            refine TC.seq ?_
            refine TC.region ?_
            refine TL.val rfl rfl rfl (Y.move rfl rfl) ?_
            refine TL.val rfl rfl rfl (Y.nilCheck rfl rfl) ?_
            refine TL.val rfl rfl rfl (by first | exact Y.fieldAddrJ rfl fo65_1 rfl nqq | exact Y.fieldAddr rfl fo65_1 rfl nqq) ?_
            refine TL.val rfl rfl rfl (Y.load rfl sc4 rfl celD) ?_
            refine TL.as (.bool rs) (by rfl) ?_
            refine TL.nil ?_
            refine TQ.next ?_
            refine TC.cond rfl (fun c4 => ?_) (fun c4 => ?_)
            · try simp only [decide_eq_true_eq, decide_eq_false_iff_not, Bool.not_eq_true', Bool.not_eq_false', Bool.and_eq_true, Bool.or_eq_true, Nat.not_lt, Nat.not_le, beq_iff_eq, bne_iff_ne] at c4
              refine TC.draws 5 [SA.blk b13 (msgC 3 1 pf35 (.slice xa60 1 1)) 58, SA.blk ab (agC na name.length nc pa pw.length pc la l.length lc (max clk now)) 55] (by kernel_rfl) (by kernel_rfl) (by repeat first | exact holds_nil | refine holds_cons inn ?_) ?_
              refine TA.take 0 rfl rfl rfl rfl (by kernel_rfl) (by kernel_rfl) (by kernel_rfl) rfl (by kernel_rfl) (by kernel_rfl) (fun _ _ _ h => h) (Y.loadAgg rfl ag58 rfl (Cels.all (cs := msgC 3 1 pf35 (.slice xa60 1 1)) inn) (by first | rfl | ((try simp only [List.length_map, List.length_set, List.length_replicate]); omega))) ?_
              refine TA.as (.agg (msgC 3 1 pf35 (.slice xa60 1 1))) (by rfl) ?_
              refine TA.takeP 1 rfl rfl rfl rfl (by kernel_rfl) (by kernel_rfl) (by kernel_rfl) rfl (fun _ _ _ h => h) (Y.move rfl rfl) ?_
              refine TA.takeP 2 rfl rfl rfl rfl (by kernel_rfl) (by kernel_rfl) (by kernel_rfl) rfl (fun _ _ _ h => h) (Y.nilCheck rfl rfl) ?_
              refine TA.takeP 3 rfl rfl rfl rfl (by kernel_rfl) (by kernel_rfl) (by kernel_rfl) rfl (fun _ _ _ h => h) (by first | exact Y.fieldAddrJ rfl fo55_1 rfl nqq | exact Y.fieldAddr rfl fo55_1 rfl nqq) ?_
              refine TA.take 4 rfl rfl rfl rfl (by kernel_rfl) (by kernel_rfl) (by kernel_rfl) rfl (by kernel_rfl) (by kernel_rfl) (fun _ _ _ h => h) (Y.load rfl sc30 rfl celD) ?_
              refine TA.as (.slice pa pw.length pc) (by rfl) ?_
              refine TA.one 5 (by kernel_rfl) rfl rfl rfl rfl (X.call rfl Try.func21 (by kernel_rfl) rfl rfl (Fn.preE (by repeat first | (with_reducible apply Ent.refl) | (apply Ent.cons; case h => first | (with_reducible (repeat first | apply Pull.here | apply Pull.there); done) | (repeat first | apply Pull.here | apply Pull.there))) (Sign_fn 3 1 pf35 xa60 1 [failM rcode xs60] _ _ _ pw rfl hpw _))) ?_
              rintro _ _ ⟨a76, c76, rfl, rfl⟩
              refine ⟨(Or.inl (by kernel_rfl)), ?_⟩
              refine TA.takeP 6 rfl rfl rfl rfl (by kernel_rfl) (by kernel_rfl) (by kernel_rfl) rfl (fun _ _ _ h => h) (Y.move rfl rfl) ?_
              refine TA.takeP 7 rfl rfl rfl rfl (by kernel_rfl) (by kernel_rfl) (by kernel_rfl) rfl (fun _ _ _ h => h) (Y.extract rfl rfl rfl) ?_
              refine TA.takeP 8 rfl rfl rfl rfl (by kernel_rfl) (by kernel_rfl) (by kernel_rfl) rfl (fun _ _ _ h => h) (Y.extract rfl rfl rfl) ?_
              refine TA.takeP 9 rfl rfl rfl rfl (by kernel_rfl) (by kernel_rfl) (by kernel_rfl) rfl (fun _ _ _ h => h) (Y.assign rfl rfl) ?_
              refine TA.done (by kernel_rfl) ?_
              refine TQ.meetF ((by first | exact (a76, (ob ((SM 3 1 pf35 ⟨xa60, 1, [failM rcode xs60]⟩).sgn pw)).length, c76) | exact (a63, (ob (SM 3 1 pf35 ⟨xa60, 1, [failM rcode xs60]⟩).build).length, c63))) (trivial) ⟨rfl, trivial⟩ (by (repeat first | apply Grow.refl | apply Grow.step | apply Grow.app)) ?_ ?_
              · kernel_rfl
              · simp only [List.cons_append, List.nil_append]
                exact ett
            · try simp only [decide_eq_true_eq, decide_eq_false_iff_not, Bool.not_eq_true', Bool.not_eq_false', Bool.and_eq_true, Bool.or_eq_true, Nat.not_lt, Nat.not_le, beq_iff_eq, bne_iff_ne] at c4
              refine TC.skip ?_
              refine TQ.meetF ((by first | exact (a76, (ob ((SM 3 1 pf35 ⟨xa60, 1, [failM rcode xs60]⟩).sgn pw)).length, c76) | exact (a63, (ob (SM 3 1 pf35 ⟨xa60, 1, [failM rcode xs60]⟩).build).length, c63))) (trivial) ⟨rfl, trivial⟩ (by (repeat first | apply Grow.refl | apply Grow.step | apply Grow.app)) ?_ ?_
              · kernel_rfl
              · simp only [List.cons_append, List.nil_append]
                exact ett
          · rintro ⟨oa, on, oc⟩ - F' L' rfl hL'
            simp only [List.cons_append, List.nil_append] at hL'
            subst hL'
            refine TC.seq ?_
            refine TC.draws 7 _ (by kernel_rfl) (by kernel_rfl) (fun _ h => h) ?_
            refine TA.take 0 rfl rfl rfl rfl (by kernel_rfl) (by kernel_rfl) (by kernel_rfl) rfl (by kernel_rfl) (by kernel_rfl) (fun _ _ _ h => h) (Y.move rfl rfl) ?_
            refine TA.take 1 rfl rfl rfl rfl (by kernel_rfl) (by kernel_rfl) (by kernel_rfl) rfl (by kernel_rfl) (by kernel_rfl) (fun _ _ _ h => h) (Y.move rfl rfl) ?_
            refine TA.take 2 rfl rfl rfl rfl (by kernel_rfl) (by kernel_rfl) (by kernel_rfl) rfl (by kernel_rfl) (by kernel_rfl) (fun _ _ _ h => h) (Y.nilCheck rfl rfl) ?_
            refine TA.take 3 rfl rfl rfl rfl (by kernel_rfl) (by kernel_rfl) (by kernel_rfl) rfl (by kernel_rfl) (by kernel_rfl) (fun _ _ _ h => h) (by first | exact Y.fieldAddrJ rfl fo65_2 rfl nqq | exact Y.fieldAddr rfl fo65_2 rfl nqq) ?_
            refine TA.take 4 rfl rfl rfl rfl (by kernel_rfl) (by kernel_rfl) (by kernel_rfl) rfl (by kernel_rfl) (by kernel_rfl) (fun _ _ _ h => h) (Y.load rfl sc33 rfl celN) ?_
            refine TA.as (vN re) (by rfl) ?_
            refine TA.take 5 rfl rfl rfl rfl (by kernel_rfl) (by kernel_rfl) (by kernel_rfl) rfl (by kernel_rfl) (by kernel_rfl) (fun _ _ _ h => h) (Y.assign rfl rfl) ?_
            refine TA.take 6 rfl rfl rfl rfl (by kernel_rfl) (by kernel_rfl) (by kernel_rfl) rfl (by kernel_rfl) (by kernel_rfl) (fun _ _ _ h => h) (Y.assign rfl rfl) ?_
            refine TA.done (by kernel_rfl) ?_
            have he := hre
            refine TQ.next ?_
            refine TC.ret ?_
            refine TQ.then_ret ?_
            refine TQ.retE (res2 rfl rfl rfl) (⟨_, _, _, _, rfl, he, rfl⟩) ?_
            exact ett
end
end ice
end Go.Proofs.Ytpmplnkempcmjaa

/- ice: the statements' datagrams (bytesOf), walked. -/
namespace Go.Proofs.Ytpmplnkempcmjaa
set_option linter.unusedVariables false
set_option linter.unusedSimpArgs false
open Go.RowKit
namespace ice
open stun
namespace FxIceB
set_option maxRecDepth 100000
theorem ag43 : Program.aggN Try.prog 43 = some 15 := by kernel_rfl
theorem el30 : Elt Try.prog 30 5 1 1 (.int .u8 0) := ⟨Try.underlying30, by kernel_rfl, rfl, by decide, by simp [Value.cells, Value.oneCell']⟩
theorem el41 : Elt Try.prog 41 77 2 32 (.agg #[.int .u16 0, .slice none 0 0]) := ⟨Try.underlying41, by kernel_rfl, rfl, by decide, by simp [Value.cells, Value.oneCell']⟩
theorem fo32_10 : Program.fieldOff Try.prog 32 10 = some 11 := by kernel_rfl
theorem fo32_11 : Program.fieldOff Try.prog 32 11 = some 12 := by kernel_rfl
theorem fo32_12 : Program.fieldOff Try.prog 32 12 = some 13 := by kernel_rfl
theorem fo32_2 : Program.fieldOff Try.prog 32 2 = some 3 := by kernel_rfl
theorem fo32_3 : Program.fieldOff Try.prog 32 3 = some 4 := by kernel_rfl
theorem fo32_4 : Program.fieldOff Try.prog 32 4 = some 5 := by kernel_rfl
theorem fo32_5 : Program.fieldOff Try.prog 32 5 = some 6 := by kernel_rfl
theorem fo32_6 : Program.fieldOff Try.prog 32 6 = some 7 := by kernel_rfl
theorem fo32_7 : Program.fieldOff Try.prog 32 7 = some 8 := by kernel_rfl
theorem fo32_8 : Program.fieldOff Try.prog 32 8 = some 9 := by kernel_rfl
theorem fo32_9 : Program.fieldOff Try.prog 32 9 = some 10 := by kernel_rfl
theorem fo43_3 : Program.fieldOff Try.prog 43 3 = some 14 := by kernel_rfl
theorem pl43 : Program.places Try.prog 43 = some [(0, 1), (1, 1), (2, 12), (14, 1)] := by kernel_rfl
theorem pl77 : Program.places Try.prog 77 = some [(0, 1), (1, 1)] := by kernel_rfl
theorem sc22 : Program.isSc Try.prog 22 = true := by kernel_rfl
theorem sc29 : Program.isSc Try.prog 29 = true := by kernel_rfl
theorem sc3 : Program.isSc Try.prog 3 = true := by kernel_rfl
theorem sc30 : Program.isSc Try.prog 30 = true := by kernel_rfl
theorem sc4 : Program.isSc Try.prog 4 = true := by kernel_rfl
theorem sc41 : Program.isSc Try.prog 41 = true := by kernel_rfl
theorem sc5 : Program.isSc Try.prog 5 = true := by kernel_rfl
theorem sc9 : Program.isSc Try.prog 9 = true := by kernel_rfl
theorem sl29 : Program.slI Try.prog 29 = some 1 := by kernel_rfl
theorem sl30 : Program.slI Try.prog 30 = some 1 := by kernel_rfl
theorem sz5 : (Try.prog.info? 5).map (·.size) = some 1 := by kernel_rfl
theorem zc40 : Program.zeroC Try.prog 40 = some ((List.replicate 12 (0 : UInt8)).map v8).toArray := by kernel_rfl
theorem zc43 : Program.zeroC Try.prog 43 = some #[.int .i64 0, .int .i64 0, .int .u8 0, .int .u8 0, .int .u8 0, .int .u8 0, .int .u8 0, .int .u8 0, .int .u8 0, .int .u8 0, .int .u8 0, .int .u8 0, .int .u8 0, .int .u8 0, .slice none 0 0] := by kernel_rfl
theorem zc77 : Program.zeroC Try.prog 77 = some #[.int .u16 0, .slice none 0 0] := by kernel_rfl
theorem zs77 : ((Try.prog.info? 77).bind fun i => i.zero.map fun z => (i.size, z.cells.size)) = some (2, 2) := by kernel_rfl
end FxIceB
open FxIceB
def ckC (ip : UInt32) (port : UInt16) (now : Int) (user key : ByteArray) (cls mth : Int) (pr cand : Bool) (more : Value) (at_ : Int) (by_ : UInt8) (plain : Bool) (raw : Value) : Array Value :=
  #[v32 ip, v16 port, vI now, vS user, vS key, vI cls, vI mth, vB pr, vB cand, more, vI at_, v8 by_, vB plain, raw]
def id0 (at_ : Int) (i : Nat) : UInt8 := if i = 0 then b8 at_ else 0
def at1 (user : ByteArray) : List PA := if (user == (⟨#[]⟩ : ByteArray)) = true then [] else [(6, bl user)]
def at2 (pr : Bool) : List PA := if pr then [(36, [1, 2, 3, 4])] else []
def at3 (cand : Bool) : List PA := if cand then [(37, [])] else []
def at4 (l : List UInt16) : List PA := l.map fun t => (t, [9])
def attrsP (user : ByteArray) (pr cand : Bool) (more : List UInt16) : List PA := at1 user ++ at2 pr ++ at3 cand ++ at4 (more.take 4)
def msgP (user : ByteArray) (cls mth : Int) (pr cand : Bool) (more : List UInt16) (at_ : Int) : SMsg := ⟨cls, mth, idL (id0 at_), attrsP user pr cand more⟩
def signP (m : SMsg) (key : ByteArray) : List UInt8 := if (key == (⟨#[]⟩ : ByteArray)) = true ∨ oe (m.sgn (bl key)) ≠ 0 then ob m.build else ob (m.sgn (bl key))
def un (n : Int) : Nat := (n % 18446744073709551616).toNat
theorem cv_un (n : Int) : IntKind.u64.wrap n = (un n : Int) := by rw [wrap_u64, un]; omega
theorem cv_b8 (n : Int) : IntKind.u8.wrap n = ((b8 n).toNat : Int) := by rw [b8_val]; rfl
theorem br_remU {m n : Nat} (h : 0 < n) : BR .rem .u64 m .u64 n (.int .u64 ((m % n : Nat) : Int)) := fun P w t => by
  have : ¬ (n = 0) := by omega
  simp [binOp, Op.intDiv, this, go_sem]
  exact Int.tmod_eq_emod_of_nonneg (by omega)
def addAt (s : List UInt8) (at_ : Int) (by_ : UInt8) : List UInt8 := if 0 < s.length then s.set (un at_ % s.length) (s.getD (un at_ % s.length) 0 + by_) else s
theorem addAt_len (s : List UInt8) (at_ : Int) (by_ : UInt8) : (addAt s at_ by_).length = s.length := by unfold addAt; split <;> simp
def bytesP (user key : ByteArray) (cls mth : Int) (pr cand : Bool) (more : List UInt16) (at_ : Int) (by_ : UInt8) (plain : Bool) (raw : List UInt8) : List UInt8 :=
  if plain then raw else addAt (signP (msgP user cls mth pr cand more at_) key) at_ by_
theorem signP_len {m : SMsg} (hid : m.id.length = 12) (key : ByteArray) : (signP m key).length ≤ 1500 := by
  unfold signP
  split
  · exact ob_len
  · cases h : m.sgn (bl key) with
    | none => simp [ob]
    | some b => exact ((build_iff _ b).1 (sgn_sum hid h)).2.1
theorem Ent.mkAtR {t : UInt16} {n cap : Nat} {a : Option Addr} {bs : List UInt8} {L L1 : List SA} (h1 : Pull (SA.rds 1 (.slice a n cap) n (bs.map v8)) L L1) (hn : bs.length = n) : Ent L (SA.dat ((t, ⟨a, cap, bs⟩) : At) :: L1) := h1.ent.trans (Ent.mkBytes hn)
theorem take_min (more : List UInt16) : more.take (min more.length 4) = more.take 4 := by
  rw [List.take_eq_take_iff]; omega
theorem more_next {more : List UInt16} {k : Nat} {t : UInt16} {l : List At} {ps : List PA} {a : Option Addr} {c : Nat} (h : l.map pl = ps ++ at4 (more.take (min k 4))) (ht : more[k]? = some t) (hk : k < 4) : (l ++ [(t, (⟨a, c, [9]⟩ : Bs))]).map pl = ps ++ at4 (more.take (min (k + 1) 4)) := by
  rw [List.map_append, h, show min k 4 = k by omega, show min (k + 1) 4 = k + 1 by omega, List.take_add_one, ht, at4, at4, List.map_append, List.append_assoc]; rfl
theorem more_stay {more : List UInt16} {k : Nat} {l : List At} {ps : List PA} (h : l.map pl = ps ++ at4 (more.take (min k 4))) (hk : 4 ≤ k) : l.map pl = ps ++ at4 (more.take (min (k + 1) 4)) := by
  rw [h, show min k 4 = 4 by omega, show min (k + 1) 4 = 4 by omega]
section
variable (ip : UInt32) (port : UInt16) (now : Int) (user key : ByteArray) (cls mth : Int) (pr cand : Bool) (ma : Option Addr) (mc : Nat) (more : List UInt16) (at_ : Int) (by_ : UInt8) (ra : Option Addr) (rc : Nat) (raw : List UInt8)
abbrev ckV (plain : Bool) : Array Value := ckC ip port now user key cls mth pr cand (.slice ma more.length mc) at_ by_ plain (.slice ra raw.length rc)
theorem bytesOf_plain (L : List SA) :
    Fn Try.prog 10 [.agg (ckV ip port now user key cls mth pr cand ma mc more at_ by_ ra rc raw true)] (SA.dat (⟨ra, rc, raw⟩ : Bs) :: L)
      (fun v L' => v = .slice ra raw.length rc ∧ L' = SA.rds 1 (.slice ra raw.length rc) raw.length (raw.map v8) :: SA.dat (⟨ra, rc, raw⟩ : Bs) :: L) := by
  refine Fn.of (N := 109) Try.func10 rfl rfl ?_
  intro Xh
  refine TC.seq ?_
  refine TC.region ?_
  refine TL.eff rfl rfl rfl (X.boxA rfl rfl) ?_
  rintro _ _ ⟨b1, rfl, rfl⟩
  refine TL.val rfl rfl rfl (Y.assign rfl rfl) ?_
  refine TL.nil ?_
  refine TQ.next ?_
  refine TC.seq ?_
  refine TC.seq ?_
  refine TC.region ?_
  refine TL.val rfl rfl rfl (by first | exact Y.fieldAddrJ rfl fo32_11 rfl nqq | exact Y.fieldAddr rfl fo32_11 rfl nqq) ?_
  refine TL.val rfl rfl rfl (Y.load rfl sc4 rfl celD) ?_
  refine TL.as (.bool true) (by rfl) ?_
  refine TL.nil ?_
  refine TQ.next ?_
  refine TC.cond_t rfl ?_
  refine TC.seq ?_
  refine TC.region ?_
  refine TL.val rfl rfl rfl (by first | exact Y.fieldAddrJ rfl fo32_12 rfl nqq | exact Y.fieldAddr rfl fo32_12 rfl nqq) ?_
  refine TL.val rfl rfl rfl (Y.load rfl sc30 rfl celD) ?_
  refine TL.as (.slice ra raw.length rc) (by rfl) ?_
  refine TL.val rfl rfl rfl (Y.assign rfl rfl) ?_
  refine TL.nil ?_
  refine TQ.next ?_
  refine TC.ret ?_
  refine TQ.then_ret ?_
  refine TQ.retE (res1 rfl rfl) (⟨rfl, rfl⟩) ?_
  exact (Ent.trans (Pull.ent (A := SA.dat (⟨ra, rc, raw⟩ : Bs)) pul) (Ent.trans Ent.bytesOf ett))
set_option maxHeartbeats 2000000 in
theorem bytesOf_made (hu : user.size ≤ 140737488351232) (hk : key.size ≤ 140737488351232) (L : List SA) :
    Fn Try.prog 10 [.agg (ckV ip port now user key cls mth pr cand ma mc more at_ by_ ra rc raw false)] (SA.dat (⟨ma, mc, more⟩ : Sl UInt16) :: L)
      (fun v L' => ∃ a cap, v = .slice a (addAt (signP (msgP user cls mth pr cand more at_) key) at_ by_).length cap ∧
        L' = SA.rds 1 (.slice a (addAt (signP (msgP user cls mth pr cand more at_) key) at_ by_).length cap) (addAt (signP (msgP user cls mth pr cand more at_) key) at_ by_).length ((addAt (signP (msgP user cls mth pr cand more at_) key) at_ by_).map v8) :: SA.dat (⟨ma, mc, more⟩ : Sl UInt16) :: L) := by
  refine Fn.of (N := 109) Try.func10 rfl rfl ?_
  intro Xh
  refine TC.know (dat_cap (a := ma) (l := more) inn) ?_
  rintro ⟨hc1, hc2, -⟩
  refine TC.seq ?_
  refine TC.region ?_
  refine TL.eff rfl rfl rfl (X.boxA rfl rfl) ?_
  rintro _ _ ⟨b1, rfl, rfl⟩
  refine TL.val rfl rfl rfl (Y.assign rfl rfl) ?_
  refine TL.nil ?_
  refine TQ.next ?_
  refine TC.seq ?_
  refine TC.seq ?_
  refine TC.region ?_
  refine TL.val rfl rfl rfl (by first | exact Y.fieldAddrJ rfl fo32_11 rfl nqq | exact Y.fieldAddr rfl fo32_11 rfl nqq) ?_
  refine TL.val rfl rfl rfl (Y.load rfl sc4 rfl celD) ?_
  refine TL.as (.bool false) (by rfl) ?_
  refine TL.nil ?_
  refine TQ.next ?_
  refine TC.cond_f rfl ?_
  refine TC.skip ?_
  refine TQ.next ?_
  refine TC.seq ?_
  refine TC.region ?_
  refine TL.val rfl rfl rfl (by first | exact Y.fieldAddrJ rfl fo32_4 rfl nqq | exact Y.fieldAddr rfl fo32_4 rfl nqq) ?_
  refine TL.val rfl rfl rfl (Y.load rfl sc3 rfl celN) ?_
  refine TL.as (vI cls) (by rfl) ?_
  refine TL.val rfl rfl rfl (by first | exact Y.fieldAddrJ rfl fo32_5 rfl nqq | exact Y.fieldAddr rfl fo32_5 rfl nqq) ?_
  refine TL.val rfl rfl rfl (Y.load rfl sc3 rfl celN) ?_
  refine TL.as (vI mth) (by rfl) ?_
  refine TL.val rfl rfl rfl (by first | exact Y.fieldAddrJ rfl fo32_9 rfl nqq | exact Y.fieldAddr rfl fo32_9 rfl nqq) ?_
  refine TL.val rfl rfl rfl (Y.load rfl sc3 rfl celN) ?_
  refine TL.as (vI at_) (by rfl) ?_
  refine TL.val rfl rfl rfl (Y.conv rfl Try.underlying3 Try.underlying5 rfl (cv_b8 at_)) ?_
  refine TL.val rfl rfl rfl (Y.buildA rfl rfl Try.underlying40 sz5 zc40 rfl) ?_
  refine TL.val rfl rfl rfl (Y.buildS (cells := msgC cls mth (id0 at_) (.slice none 0 0)) rfl rfl pl43 zc43 (by kernel_rfl)) ?_
  refine TL.eff rfl rfl rfl (X.alloc rfl zc43) ?_
  rintro _ _ ⟨b3, rfl, rfl⟩
  refine TL.eff0 rfl rfl (X.storeAll rfl (by kernel_rfl) (msgC_size cls mth (id0 at_) _) rfl rfl (msg_one cls mth (id0 at_) _ _ _) pul rfl) ?_
  rintro _ _ rfl
  refine TL.nil ?_
  refine TQ.to (Ent.trans Ent.rdss0 (Ent.nilOwn 77 2)) ?_
  refine TQ.next ?_
  refine TC.cutF (ι := Option Addr × Nat × List At) [] (fun i => i.2.2.map pl = at1 user ∧ i.2.2.length ≤ 1) (fun i => []) (fun i => [SA.blk b3 (msgC cls mth (id0 at_) (.slice i.1 i.2.2.length i.2.1)) 43, SA.owns 77 2 (.slice i.1 i.2.2.length i.2.1) i.2.2.length (Dat.cs i.2.2), SA.rdss (i.2.2.flatMap Dat.g)]) (Ao := [SA.blk b3 (msgC cls mth (id0 at_) (.slice none 0 0)) 43, SA.owns 77 2 (.slice none 0 0) 0 [], SA.rdss []]) (Pulls.cons pul (Pulls.cons pul (Pulls.cons pul Pulls.nil))) ?_ ?_
  · rintro L' hL'
    simp only [List.cons_append, List.nil_append] at hL'
    subst hL'
    refine TC.seq ?_
    refine TC.region ?_
    refine TL.val rfl rfl rfl (by first | exact Y.fieldAddrJ rfl fo32_2 rfl nqq | exact Y.fieldAddr rfl fo32_2 rfl nqq) ?_
    refine TL.val rfl rfl rfl (Y.load rfl sc9 rfl celD) ?_
    refine TL.as (vS user) (by rfl) ?_
    refine TL.val rfl rfl rfl (Y.neB rfl rfl rfl) ?_
    refine TL.nil ?_
    refine TQ.next ?_
    refine TC.cond rfl (fun c1 => ?_) (fun c1 => ?_)
    · try simp only [decide_eq_true_eq, decide_eq_false_iff_not, Bool.not_eq_true', Bool.not_eq_false', Bool.and_eq_true, Bool.or_eq_true, Nat.not_lt, Nat.not_le, beq_iff_eq, bne_iff_ne] at c1
      refine TC.region ?_
      refine TL.val rfl rfl rfl (by first | exact Y.fieldAddrJ rfl fo43_3 rfl nqq | exact Y.fieldAddr rfl fo43_3 rfl nqq) ?_
      refine TL.val rfl rfl rfl (Y.load rfl sc41 rfl celD) ?_
      refine TL.as (.slice none 0 0) (by rfl) ?_
      refine TL.val rfl rfl rfl (by first | exact Y.fieldAddrJ rfl fo32_2 rfl nqq | exact Y.fieldAddr rfl fo32_2 rfl nqq) ?_
      refine TL.val rfl rfl rfl (Y.load rfl sc9 rfl celD) ?_
      refine TL.as (vS user) (by rfl) ?_
      refine TL.eff rfl rfl rfl (X.strB rfl Try.underlying9 Try.underlying30 Try.underlying5 rfl (by simp only [maxLen]; omega)) ?_
      rintro _ _ ⟨g27, c27, rfl, rfl⟩
      refine TL.val rfl rfl rfl (Y.buildS (cells := #[v16 6, .slice (some ⟨g27, 0, none⟩) user.size c27]) rfl rfl pl77 zc77 (by kernel_rfl)) ?_
      refine TL.eff rfl rfl rfl (X.litA (bytes := 0) (z := .nilFunc) rfl Try.underlying41 zs77 rfl rfl rfl (by decide) (by decide) (by decide) rfl (cells := [v16 6, .slice (some ⟨g27, 0, none⟩) user.size c27]) rfl rfl) ?_
      rintro _ _ ⟨g29, rfl, rfl⟩
      refine TL.eff rfl rfl rfl (X.appendS rfl el41 rfl pul rfl (by first | exact Src.owns Try.underlying41 inn | exact Src.rds Try.underlying41 inn | exact Src.reads (by assumption) Try.underlying41 inn) (by simp only [maxLen]; omega) (by omega)) ?_
      rintro _ _ ⟨a30, c30, rfl, rfl⟩
      refine TL.to (Ent.trans (Ent.mkAtR (t := 6) (a := some ⟨g27, 0, none⟩) (bs := bl user) (n := user.size) pul rfl) (Ent.addEl (x := ((6 : UInt16), (⟨some ⟨g27, 0, none⟩, c27, bl user⟩ : Bs))) (ys := ([] : List At)) pul pul)) ?_
      refine TL.val rfl rfl rfl (by first | exact Y.fieldAddrJ rfl fo43_3 rfl nqq | exact Y.fieldAddr rfl fo43_3 rfl nqq) ?_
      refine TL.eff0 rfl rfl (X.store (cs' := msgC cls mth (id0 at_) (.slice a30 1 c30)) rfl (by kernel_rfl) rfl rfl rfl pul (by rw [msgC_size]; omega) rfl) ?_
      rintro _ _ rfl
      refine TL.nil ?_
      refine TQ.meetF (ι := Option Addr × Nat × List At) (I := fun i => i.2.2.map pl = at1 user ∧ i.2.2.length ≤ 1) (C := fun (_ : Option Addr × Nat × List At) => []) (U := []) ((by first | exact (a30, c30, [((6 : UInt16), (⟨some ⟨g27, 0, none⟩, c27, bl user⟩ : Bs))]) | exact (none, 0, []))) ((by first | exact ⟨by rw [at1, if_neg (by simp [c1])]; rfl, by simp⟩ | exact ⟨by rw [at1, if_pos (by simpa using c1)]; rfl, by simp⟩)) trivial (by (repeat first | apply Grow.refl | apply Grow.step | apply Grow.app)) ?_ ?_
      · kernel_rfl
      · simp only [List.cons_append, List.nil_append]
        exact ett
    · try simp only [decide_eq_true_eq, decide_eq_false_iff_not, Bool.not_eq_true', Bool.not_eq_false', Bool.and_eq_true, Bool.or_eq_true, Nat.not_lt, Nat.not_le, beq_iff_eq, bne_iff_ne] at c1
      refine TC.skip ?_
      refine TQ.meetF (ι := Option Addr × Nat × List At) (I := fun i => i.2.2.map pl = at1 user ∧ i.2.2.length ≤ 1) (C := fun (_ : Option Addr × Nat × List At) => []) (U := []) ((by first | exact (a30, c30, [((6 : UInt16), (⟨some ⟨g27, 0, none⟩, c27, bl user⟩ : Bs))]) | exact (none, 0, []))) ((by first | exact ⟨by rw [at1, if_neg (by simp [c1])]; rfl, by simp⟩ | exact ⟨by rw [at1, if_pos (by simpa using c1)]; rfl, by simp⟩)) trivial (by (repeat first | apply Grow.refl | apply Grow.step | apply Grow.app)) ?_ ?_
      · kernel_rfl
      · simp only [List.cons_append, List.nil_append]
        exact ett
  · rintro ⟨aa1, ac1, l1⟩ ⟨hl1, hn1⟩ F' L' rfl hL'
    simp only [List.cons_append, List.nil_append] at hL'
    subst hL'
    simp only at hl1 hn1 ⊢
    refine TC.cutF (ι := Option Addr × Nat × List At) [] (fun i => i.2.2.map pl = at1 user ++ at2 pr ∧ i.2.2.length ≤ 2) (fun i => []) (fun i => [SA.blk b3 (msgC cls mth (id0 at_) (.slice i.1 i.2.2.length i.2.1)) 43, SA.owns 77 2 (.slice i.1 i.2.2.length i.2.1) i.2.2.length (Dat.cs i.2.2), SA.rdss (i.2.2.flatMap Dat.g)]) (Ao := [SA.blk b3 (msgC cls mth (id0 at_) (.slice aa1 l1.length ac1)) 43, SA.owns 77 2 (.slice aa1 l1.length ac1) l1.length (Dat.cs l1), SA.rdss (l1.flatMap Dat.g)]) (Pulls.cons pul (Pulls.cons pul (Pulls.cons pul Pulls.nil))) ?_ ?_
    · rintro L' hL'
      simp only [List.cons_append, List.nil_append] at hL'
      subst hL'
      refine TC.seq ?_
      refine TC.region ?_
      refine TL.val rfl rfl rfl (by first | exact Y.fieldAddrJ rfl fo32_6 rfl nqq | exact Y.fieldAddr rfl fo32_6 rfl nqq) ?_
      refine TL.val rfl rfl rfl (Y.load rfl sc4 rfl celD) ?_
      refine TL.as (.bool pr) (by rfl) ?_
      refine TL.nil ?_
      refine TQ.next ?_
      refine TC.cond rfl (fun c2 => ?_) (fun c2 => ?_)
      · try simp only [decide_eq_true_eq, decide_eq_false_iff_not, Bool.not_eq_true', Bool.not_eq_false', Bool.and_eq_true, Bool.or_eq_true, Nat.not_lt, Nat.not_le, beq_iff_eq, bne_iff_ne] at c2
        refine TC.region ?_
        refine TL.val rfl rfl rfl (by first | exact Y.fieldAddrJ rfl fo43_3 rfl nqq | exact Y.fieldAddr rfl fo43_3 rfl nqq) ?_
        refine TL.val rfl rfl rfl (Y.load rfl sc41 rfl celD) ?_
        refine TL.as (.slice aa1 l1.length ac1) (by rfl) ?_
        refine TL.eff rfl rfl rfl (X.lit rfl el30 rfl rfl rfl (by decide) rfl) ?_
        rintro _ _ ⟨g36, rfl, rfl⟩
        refine TL.val rfl rfl rfl (Y.buildS (cells := #[v16 36, .slice (some ⟨g36, 0, none⟩) 4 4]) rfl rfl pl77 zc77 (by kernel_rfl)) ?_
        refine TL.eff rfl rfl rfl (X.litA (bytes := 0) (z := .nilFunc) rfl Try.underlying41 zs77 rfl rfl rfl (by decide) (by decide) (by decide) rfl (cells := [v16 36, .slice (some ⟨g36, 0, none⟩) 4 4]) rfl rfl) ?_
        rintro _ _ ⟨g38, rfl, rfl⟩
        refine TL.eff rfl rfl rfl (X.appendS rfl el41 rfl pul rfl (by first | exact Src.owns Try.underlying41 inn | exact Src.rds Try.underlying41 inn | exact Src.reads (by assumption) Try.underlying41 inn) (by simp only [maxLen]; omega) (by omega)) ?_
        rintro _ _ ⟨a39, c39, rfl, rfl⟩
        refine TL.to (Ent.trans (Ent.mkAt (t := 36) (a := some ⟨g36, 0, none⟩) (bs := [1, 2, 3, 4]) (n := 4) (cap := 4) pul rfl) (Ent.addEl (x := ((36 : UInt16), (⟨some ⟨g36, 0, none⟩, 4, [1, 2, 3, 4]⟩ : Bs))) (ys := l1) pul pul)) ?_
        rw [show Dat.cs l1 ++ [v16 36, .slice (some ⟨g36, 0, none⟩) 4 4] = Dat.cs (l1 ++ [((36 : UInt16), (⟨some ⟨g36, 0, none⟩, 4, [1, 2, 3, 4]⟩ : Bs))]) from (Dat.cs_app l1 [((36 : UInt16), (⟨some ⟨g36, 0, none⟩, 4, [1, 2, 3, 4]⟩ : Bs))]).symm, show l1.length + 1 = (l1 ++ [((36 : UInt16), (⟨some ⟨g36, 0, none⟩, 4, [1, 2, 3, 4]⟩ : Bs))]).length by simp]
        refine TL.val rfl rfl rfl (by first | exact Y.fieldAddrJ rfl fo43_3 rfl nqq | exact Y.fieldAddr rfl fo43_3 rfl nqq) ?_
        refine TL.eff0 rfl rfl (X.store (cs' := msgC cls mth (id0 at_) (.slice a39 (l1 ++ [((36 : UInt16), (⟨some ⟨g36, 0, none⟩, 4, [1, 2, 3, 4]⟩ : Bs))]).length c39)) rfl (by kernel_rfl) rfl rfl rfl pul (by rw [msgC_size]; omega) rfl) ?_
        rintro _ _ rfl
        refine TL.nil ?_
        refine TQ.meetF (ι := Option Addr × Nat × List At) (I := fun i => i.2.2.map pl = at1 user ++ at2 pr ∧ i.2.2.length ≤ 2) (C := fun (_ : Option Addr × Nat × List At) => []) (U := []) ((by first | exact (a39, c39, l1 ++ [((36 : UInt16), (⟨some ⟨g36, 0, none⟩, 4, [1, 2, 3, 4]⟩ : Bs))]) | exact (aa1, ac1, l1))) ((by first | exact ⟨by rw [at2, c2, List.map_append, hl1]; rfl, by rw [List.length_append]; show l1.length + 1 ≤ 2; omega⟩ | exact ⟨by rw [at2, c2, hl1]; simp, by show l1.length ≤ 2; omega⟩)) trivial (by (repeat first | apply Grow.refl | apply Grow.step | apply Grow.app)) ?_ ?_
        · kernel_rfl
        · simp only [List.cons_append, List.nil_append]
          exact ett
      · try simp only [decide_eq_true_eq, decide_eq_false_iff_not, Bool.not_eq_true', Bool.not_eq_false', Bool.and_eq_true, Bool.or_eq_true, Nat.not_lt, Nat.not_le, beq_iff_eq, bne_iff_ne] at c2
        refine TC.skip ?_
        refine TQ.meetF (ι := Option Addr × Nat × List At) (I := fun i => i.2.2.map pl = at1 user ++ at2 pr ∧ i.2.2.length ≤ 2) (C := fun (_ : Option Addr × Nat × List At) => []) (U := []) ((by first | exact (a39, c39, l1 ++ [((36 : UInt16), (⟨some ⟨g36, 0, none⟩, 4, [1, 2, 3, 4]⟩ : Bs))]) | exact (aa1, ac1, l1))) ((by first | exact ⟨by rw [at2, c2, List.map_append, hl1]; rfl, by rw [List.length_append]; show l1.length + 1 ≤ 2; omega⟩ | exact ⟨by rw [at2, c2, hl1]; simp, by show l1.length ≤ 2; omega⟩)) trivial (by (repeat first | apply Grow.refl | apply Grow.step | apply Grow.app)) ?_ ?_
        · kernel_rfl
        · simp only [List.cons_append, List.nil_append]
          exact ett
    · rintro ⟨aa2, ac2, l2⟩ ⟨hl2, hn2⟩ F' L' rfl hL'
      simp only [List.cons_append, List.nil_append] at hL'
      subst hL'
      simp only at hl2 hn2 ⊢
      refine TC.cutF (ι := Option Addr × Nat × List At) [] (fun i => i.2.2.map pl = at1 user ++ at2 pr ++ at3 cand ∧ i.2.2.length ≤ 3) (fun i => []) (fun i => [SA.blk b3 (msgC cls mth (id0 at_) (.slice i.1 i.2.2.length i.2.1)) 43, SA.owns 77 2 (.slice i.1 i.2.2.length i.2.1) i.2.2.length (Dat.cs i.2.2), SA.rdss (i.2.2.flatMap Dat.g)]) (Ao := [SA.blk b3 (msgC cls mth (id0 at_) (.slice aa2 l2.length ac2)) 43, SA.owns 77 2 (.slice aa2 l2.length ac2) l2.length (Dat.cs l2), SA.rdss (l2.flatMap Dat.g)]) (Pulls.cons pul (Pulls.cons pul (Pulls.cons pul Pulls.nil))) ?_ ?_
      · rintro L' hL'
        simp only [List.cons_append, List.nil_append] at hL'
        subst hL'
        refine TC.seq ?_
        refine TC.region ?_
        refine TL.val rfl rfl rfl (by first | exact Y.fieldAddrJ rfl fo32_7 rfl nqq | exact Y.fieldAddr rfl fo32_7 rfl nqq) ?_
        refine TL.val rfl rfl rfl (Y.load rfl sc4 rfl celD) ?_
        refine TL.as (.bool cand) (by rfl) ?_
        refine TL.nil ?_
        refine TQ.next ?_
        refine TC.cond rfl (fun c3 => ?_) (fun c3 => ?_)
        · try simp only [decide_eq_true_eq, decide_eq_false_iff_not, Bool.not_eq_true', Bool.not_eq_false', Bool.and_eq_true, Bool.or_eq_true, Nat.not_lt, Nat.not_le, beq_iff_eq, bne_iff_ne] at c3
          refine TC.region ?_
          refine TL.val rfl rfl rfl (by first | exact Y.fieldAddrJ rfl fo43_3 rfl nqq | exact Y.fieldAddr rfl fo43_3 rfl nqq) ?_
          refine TL.val rfl rfl rfl (Y.load rfl sc41 rfl celD) ?_
          refine TL.as (.slice aa2 l2.length ac2) (by rfl) ?_
          refine TL.val rfl rfl rfl (Y.buildS (cells := #[v16 37, .slice none 0 0]) rfl rfl pl77 zc77 (by kernel_rfl)) ?_
          refine TL.eff rfl rfl rfl (X.litA (bytes := 0) (z := .nilFunc) rfl Try.underlying41 zs77 rfl rfl rfl (by decide) (by decide) (by decide) rfl (cells := [v16 37, .slice none 0 0]) rfl rfl) ?_
          rintro _ _ ⟨g46, rfl, rfl⟩
          refine TL.eff rfl rfl rfl (X.appendS rfl el41 rfl pul rfl (by first | exact Src.owns Try.underlying41 inn | exact Src.rds Try.underlying41 inn | exact Src.reads (by assumption) Try.underlying41 inn) (by simp only [maxLen]; omega) (by omega)) ?_
          rintro _ _ ⟨a47, c47, rfl, rfl⟩
          refine TL.to (Ent.trans Ent.nilBs (Ent.addEl (x := ((37 : UInt16), (⟨none, 0, []⟩ : Bs))) (ys := l2) pul pul)) ?_
          rw [show Dat.cs l2 ++ [v16 37, .slice none 0 0] = Dat.cs (l2 ++ [((37 : UInt16), (⟨none, 0, []⟩ : Bs))]) from (Dat.cs_app l2 [((37 : UInt16), (⟨none, 0, []⟩ : Bs))]).symm, show l2.length + 1 = (l2 ++ [((37 : UInt16), (⟨none, 0, []⟩ : Bs))]).length by simp]
          refine TL.val rfl rfl rfl (by first | exact Y.fieldAddrJ rfl fo43_3 rfl nqq | exact Y.fieldAddr rfl fo43_3 rfl nqq) ?_
          refine TL.eff0 rfl rfl (X.store (cs' := msgC cls mth (id0 at_) (.slice a47 (l2 ++ [((37 : UInt16), (⟨none, 0, []⟩ : Bs))]).length c47)) rfl (by kernel_rfl) rfl rfl rfl pul (by rw [msgC_size]; omega) rfl) ?_
          rintro _ _ rfl
          refine TL.nil ?_
          refine TQ.meetF (ι := Option Addr × Nat × List At) (I := fun i => i.2.2.map pl = at1 user ++ at2 pr ++ at3 cand ∧ i.2.2.length ≤ 3) (C := fun (_ : Option Addr × Nat × List At) => []) (U := []) ((by first | exact (a47, c47, l2 ++ [((37 : UInt16), (⟨none, 0, []⟩ : Bs))]) | exact (aa2, ac2, l2))) ((by first | exact ⟨by rw [at3, c3, List.map_append, hl2]; rfl, by rw [List.length_append]; show l2.length + 1 ≤ 3; omega⟩ | exact ⟨by rw [at3, c3, hl2]; simp, by show l2.length ≤ 3; omega⟩)) trivial (by (repeat first | apply Grow.refl | apply Grow.step | apply Grow.app)) ?_ ?_
          · kernel_rfl
          · simp only [List.cons_append, List.nil_append]
            exact ett
        · try simp only [decide_eq_true_eq, decide_eq_false_iff_not, Bool.not_eq_true', Bool.not_eq_false', Bool.and_eq_true, Bool.or_eq_true, Nat.not_lt, Nat.not_le, beq_iff_eq, bne_iff_ne] at c3
          refine TC.skip ?_
          refine TQ.meetF (ι := Option Addr × Nat × List At) (I := fun i => i.2.2.map pl = at1 user ++ at2 pr ++ at3 cand ∧ i.2.2.length ≤ 3) (C := fun (_ : Option Addr × Nat × List At) => []) (U := []) ((by first | exact (a47, c47, l2 ++ [((37 : UInt16), (⟨none, 0, []⟩ : Bs))]) | exact (aa2, ac2, l2))) ((by first | exact ⟨by rw [at3, c3, List.map_append, hl2]; rfl, by rw [List.length_append]; show l2.length + 1 ≤ 3; omega⟩ | exact ⟨by rw [at3, c3, hl2]; simp, by show l2.length ≤ 3; omega⟩)) trivial (by (repeat first | apply Grow.refl | apply Grow.step | apply Grow.app)) ?_ ?_
          · kernel_rfl
          · simp only [List.cons_append, List.nil_append]
            exact ett
      · rintro ⟨aa3, ac3, l3⟩ ⟨hl3, hn3⟩ F' L' rfl hL'
        simp only [List.cons_append, List.nil_append] at hL'
        subst hL'
        simp only at hl3 hn3 ⊢
        refine TC.seq ?_
        refine TC.seq ?_
        refine TC.region ?_
        refine TL.val rfl rfl rfl (by first | exact Y.fieldAddrJ rfl fo32_8 rfl nqq | exact Y.fieldAddr rfl fo32_8 rfl nqq) ?_
        refine TL.val rfl rfl rfl (Y.load rfl sc29 rfl celD) ?_
        refine TL.as (.slice ma more.length mc) (by rfl) ?_
        refine TL.val rfl rfl rfl (Y.len rfl Try.underlying29 rfl) ?_
        refine TL.val rfl rfl rfl (Y.move rfl rfl) ?_
        refine TL.nil ?_
        refine TQ.next ?_
        refine TC.block ?_
        refine TC.loopF (ι := Nat × Option Addr × Nat × List At) [] (fun i => i.1 ≤ more.length ∧ i.2.2.2.map pl = at1 user ++ at2 pr ++ at3 cand ++ at4 (more.take (min i.1 4)) ∧ i.2.2.2.length ≤ 3 + min i.1 4) (fun i => [(52, some (vN i.1))]) (fun i => [SA.blk b3 (msgC cls mth (id0 at_) (.slice i.2.1 i.2.2.2.length i.2.2.1)) 43, SA.owns 77 2 (.slice i.2.1 i.2.2.2.length i.2.2.1) i.2.2.2.length (Dat.cs i.2.2.2), SA.rdss (i.2.2.2.flatMap Dat.g)]) (fun i => more.length - i.1) ((0, aa3, ac3, l3)) (⟨by omega, by rw [hl3]; simp [at4], by show l3.length ≤ 3 + min 0 4; omega⟩) ⟨rfl, trivial⟩ (Pulls.cons pul (Pulls.cons pul (Pulls.cons pul Pulls.nil))) ?_
        rintro ⟨k, ba, bc, l4⟩ ⟨hkm, hl4, hn4⟩ F' L' rfl hL'
        simp only [List.cons_append, List.nil_append] at hL'
        subst hL'
        simp only at hkm hl4 hn4 ⊢
        refine TC.seq ?_
        refine TC.region ?_
        refine TL.val rfl rfl rfl (Y.bin rfl rfl rfl (br_ltN)) ?_
        refine TL.nil ?_
        refine TQ.next ?_
        refine TC.seq ?_
        refine TC.cond rfl (fun c4 => ?_) (fun c4 => ?_)
        · try simp only [decide_eq_true_eq, decide_eq_false_iff_not, Bool.not_eq_true', Bool.not_eq_false', Bool.and_eq_true, Bool.or_eq_true, Nat.not_lt, Nat.not_le, beq_iff_eq, bne_iff_ne] at c4
          refine TC.skip ?_
          refine TQ.next ?_
          refine TC.seq ?_
          refine TC.block ?_
          refine TC.seq ?_
          refine TC.region ?_
          refine TL.val rfl rfl rfl (Y.move rfl rfl) ?_
          refine TL.val rfl rfl rfl (Y.assign rfl rfl) ?_
          refine TL.nil ?_
          refine TQ.next ?_
          refine TC.seq ?_
          refine TC.region ?_
          refine TL.val rfl rfl rfl (Y.move rfl rfl) ?_
          refine TL.val rfl rfl rfl (Y.bin rfl rfl rfl (br_ltN (n := 4))) ?_
          refine TL.nil ?_
          refine TQ.next ?_
          refine TC.cond rfl (fun c5 => ?_) (fun c5 => ?_)
          · try simp only [decide_eq_true_eq, decide_eq_false_iff_not, Bool.not_eq_true', Bool.not_eq_false', Bool.and_eq_true, Bool.or_eq_true, Nat.not_lt, Nat.not_le, beq_iff_eq, bne_iff_ne] at c5
            obtain ⟨t, ht, -⟩ := getS (l := more) (i := k) (by omega)
            refine TC.know (dat_some (a := ma) (l := more) inn (by omega)) ?_
            rintro ⟨mg, mo, rfl⟩
            refine TC.draws 12 [SA.blk b3 (msgC cls mth (id0 at_) (.slice ba l4.length bc)) 43, SA.blk b1 (ckV ip port now user key cls mth pr cand (some ⟨mg, mo, none⟩) mc more at_ by_ ra rc raw false) 32, SA.dat (⟨some ⟨mg, mo, none⟩, mc, more⟩ : Sl UInt16)] (by kernel_rfl) (by kernel_rfl) (by repeat first | exact holds_nil | refine holds_cons inn ?_) ?_
            refine TA.take 0 rfl rfl rfl rfl (by kernel_rfl) (by kernel_rfl) (by kernel_rfl) rfl (by kernel_rfl) (by kernel_rfl) (fun _ _ _ h => h) (by first | exact Y.fieldAddrJ rfl fo43_3 rfl nqq | exact Y.fieldAddr rfl fo43_3 rfl nqq) ?_
            refine TA.take 1 rfl rfl rfl rfl (by kernel_rfl) (by kernel_rfl) (by kernel_rfl) rfl (by kernel_rfl) (by kernel_rfl) (fun _ _ _ h => h) (Y.load rfl sc41 rfl celD) ?_
            refine TA.as (.slice ba l4.length bc) (by rfl) ?_
            refine TA.take 2 rfl rfl rfl rfl (by kernel_rfl) (by kernel_rfl) (by kernel_rfl) rfl (by kernel_rfl) (by kernel_rfl) (fun _ _ _ h => h) (by first | exact Y.fieldAddrJ rfl fo32_8 rfl nqq | exact Y.fieldAddr rfl fo32_8 rfl nqq) ?_
            refine TA.take 3 rfl rfl rfl rfl (by kernel_rfl) (by kernel_rfl) (by kernel_rfl) rfl (by kernel_rfl) (by kernel_rfl) (fun _ _ _ h => h) (Y.load rfl sc29 rfl celD) ?_
            refine TA.as (.slice (some ⟨mg, mo, none⟩) more.length mc) (by rfl) ?_
            refine TA.take 4 rfl rfl rfl rfl (by kernel_rfl) (by kernel_rfl) (by kernel_rfl) rfl (by kernel_rfl) (by kernel_rfl) (fun _ _ _ h => h) (Y.move rfl rfl) ?_
            refine TA.take 5 rfl rfl rfl rfl (by kernel_rfl) (by kernel_rfl) (by kernel_rfl) rfl (by kernel_rfl) (by kernel_rfl) (fun _ _ _ h => h) (by first | exact Y.indexSlB rfl sl29 rfl rfl (by omega) nqq | exact Y.indexSl rfl sl29 rfl rfl (by omega) nqq) ?_
            refine TA.take 6 rfl rfl rfl rfl (by kernel_rfl) (by kernel_rfl) (by kernel_rfl) rfl (by kernel_rfl) (by kernel_rfl) (fun _ _ _ h => h) (Y.load rfl sc22 rfl cel16) ?_
            refine TA.as (v16 t) (by rfl) ?_
            refine TA.one 7 (by kernel_rfl) rfl rfl rfl rfl (X.lit rfl el30 rfl rfl rfl (by decide) rfl) ?_
            rintro _ _ ⟨g64, rfl, rfl⟩
            refine ⟨(Or.inr (by repeat first | exact holds_nil | refine holds_cons inn ?_)), ?_⟩
            refine TA.take 8 rfl rfl rfl rfl (by kernel_rfl) (by kernel_rfl) (by kernel_rfl) rfl (by kernel_rfl) (by kernel_rfl) (fun _ _ _ h => h) (Y.buildS (cells := #[v16 t, .slice (some ⟨g64, 0, none⟩) 1 1]) rfl rfl pl77 zc77 (by kernel_rfl)) ?_
            refine TA.one 9 (by kernel_rfl) rfl rfl rfl rfl (X.litA (bytes := 0) (z := .nilFunc) rfl Try.underlying41 zs77 rfl rfl rfl (by decide) (by decide) (by decide) rfl (cells := [v16 t, .slice (some ⟨g64, 0, none⟩) 1 1]) rfl rfl) ?_
            rintro _ _ ⟨g66, rfl, rfl⟩
            refine ⟨(Or.inr (by repeat first | exact holds_nil | refine holds_cons inn ?_)), ?_⟩
            refine TA.one 10 (by kernel_rfl) rfl rfl rfl rfl (X.appendS rfl el41 rfl pul rfl (by first | exact Src.owns Try.underlying41 inn | exact Src.rds Try.underlying41 inn | exact Src.reads (by assumption) Try.underlying41 inn) (by simp only [maxLen]; omega) (by omega)) ?_
            rintro _ _ ⟨a67, c67, rfl, rfl⟩
            refine ⟨(Or.inr (by repeat first | exact holds_nil | refine holds_cons inn ?_)), ?_⟩
            refine TA.to (Ent.mkAt (t := t) (a := some ⟨g64, 0, none⟩) (bs := [9]) (n := 1) (cap := 1) pul rfl) ?_
            refine TA.to (Ent.addEl (x := (t, (⟨some ⟨g64, 0, none⟩, 1, [9]⟩ : Bs))) (ys := l4) pul pul) ?_
            rw [show Dat.cs l4 ++ [v16 t, .slice (some ⟨g64, 0, none⟩) 1 1] = Dat.cs (l4 ++ [(t, (⟨some ⟨g64, 0, none⟩, 1, [9]⟩ : Bs))]) from (Dat.cs_app l4 [(t, (⟨some ⟨g64, 0, none⟩, 1, [9]⟩ : Bs))]).symm, show l4.length + 1 = (l4 ++ [(t, (⟨some ⟨g64, 0, none⟩, 1, [9]⟩ : Bs))]).length by simp]
            refine TA.take 11 rfl rfl rfl rfl (by kernel_rfl) (by kernel_rfl) (by kernel_rfl) rfl (by kernel_rfl) (by kernel_rfl) (fun _ _ _ h => h) (by first | exact Y.fieldAddrJ rfl fo43_3 rfl nqq | exact Y.fieldAddr rfl fo43_3 rfl nqq) ?_
            refine TA.one0 12 (by kernel_rfl) rfl rfl rfl (X.store (cs' := msgC cls mth (id0 at_) (.slice a67 (l4 ++ [(t, (⟨some ⟨g64, 0, none⟩, 1, [9]⟩ : Bs))]).length c67)) rfl (by kernel_rfl) rfl rfl rfl pul (by rw [msgC_size]; omega) rfl) ?_
            rintro _ _ rfl
            refine ⟨(Or.inl (by kernel_rfl)), ?_⟩
            refine TA.done (by kernel_rfl) ?_
            have hI' := more_next hl4 ht c5 (a := some ⟨g64, 0, none⟩) (c := 1)
            refine TQ.block_normal ?_
            refine TQ.next ?_
            refine TC.region ?_
            refine TL.val rfl rfl rfl (Y.bin rfl rfl rfl (br_addN (n := 1) (by omega))) ?_
            refine TL.val rfl rfl rfl (Y.move rfl rfl) ?_
            refine TL.nil ?_
            refine TQ.loopF ((by first | exact (k + 1, a67, c67, l4 ++ [(t, (⟨some ⟨g64, 0, none⟩, 1, [9]⟩ : Bs))]) | exact (k + 1, ba, bc, l4))) ((by first | exact ⟨by show k + 1 ≤ _; omega, hI', by rw [List.length_append]; show l4.length + 1 ≤ 3 + min (k + 1) 4; omega⟩ | exact ⟨by show k + 1 ≤ _; omega, hJ', by show l4.length ≤ 3 + min (k + 1) 4; omega⟩)) ((by show more.length - (k + 1) < more.length - k; omega)) ⟨rfl, trivial⟩ (by (repeat first | apply Grow.refl | apply Grow.step | apply Grow.app)) ?_ ?_ ?_
            · kernel_rfl
            · rfl
            · simp only [List.cons_append, List.nil_append]
              exact ett
          · try simp only [decide_eq_true_eq, decide_eq_false_iff_not, Bool.not_eq_true', Bool.not_eq_false', Bool.and_eq_true, Bool.or_eq_true, Nat.not_lt, Nat.not_le, beq_iff_eq, bne_iff_ne] at c5
            have hJ' := more_stay hl4 c5
            refine TC.skip ?_
            refine TQ.block_normal ?_
            refine TQ.next ?_
            refine TC.region ?_
            refine TL.val rfl rfl rfl (Y.bin rfl rfl rfl (br_addN (n := 1) (by omega))) ?_
            refine TL.val rfl rfl rfl (Y.move rfl rfl) ?_
            refine TL.nil ?_
            refine TQ.loopF ((by first | exact (k + 1, a67, c67, l4 ++ [(t, (⟨some ⟨g64, 0, none⟩, 1, [9]⟩ : Bs))]) | exact (k + 1, ba, bc, l4))) ((by first | exact ⟨by show k + 1 ≤ _; omega, hI', by rw [List.length_append]; show l4.length + 1 ≤ 3 + min (k + 1) 4; omega⟩ | exact ⟨by show k + 1 ≤ _; omega, hJ', by show l4.length ≤ 3 + min (k + 1) 4; omega⟩)) ((by show more.length - (k + 1) < more.length - k; omega)) ⟨rfl, trivial⟩ (by (repeat first | apply Grow.refl | apply Grow.step | apply Grow.app)) ?_ ?_ ?_
            · kernel_rfl
            · rfl
            · simp only [List.cons_append, List.nil_append]
              exact ett
        · try simp only [decide_eq_true_eq, decide_eq_false_iff_not, Bool.not_eq_true', Bool.not_eq_false', Bool.and_eq_true, Bool.or_eq_true, Nat.not_lt, Nat.not_le, beq_iff_eq, bne_iff_ne] at c4
          refine TC.exit ?_
          refine TQ.then_exit ?_
          refine TQ.then_exit ?_
          refine TQ.block_exit ?_
          refine TQ.next ?_
          refine TC.seq ?_
          obtain rfl : k = more.length := by omega
          have hml : l4.map pl = attrsP user pr cand more := by rw [hl4, attrsP, take_min]
          have hSM : SM cls mth (id0 at_) ⟨ba, bc, l4⟩ = msgP user cls mth pr cand more at_ := by rw [SM, hml]; rfl
          refine TC.to (Ent.mkOwn (a := ba) (l := l4) pul pul rfl rfl rfl) ?_
          have hol := signP_len (m := msgP user cls mth pr cand more at_) rfl key
          refine TC.region ?_
          refine TL.val rfl rfl rfl (Y.loadAgg rfl ag43 rfl (Cels.all (cs := msgC cls mth (id0 at_) (.slice ba l4.length bc)) inn) (by first | rfl | ((try simp only [List.length_map, List.length_set, List.length_replicate]); omega))) ?_
          refine TL.as (.agg (msgC cls mth (id0 at_) (.slice ba l4.length bc))) (by rfl) ?_
          refine TL.val rfl rfl rfl (by first | exact Y.fieldAddrJ rfl fo32_3 rfl nqq | exact Y.fieldAddr rfl fo32_3 rfl nqq) ?_
          refine TL.val rfl rfl rfl (Y.load rfl sc9 rfl celD) ?_
          refine TL.as (vS key) (by rfl) ?_
          refine TL.eff rfl rfl rfl (X.strB rfl Try.underlying9 Try.underlying30 Try.underlying5 rfl (by simp only [maxLen]; omega)) ?_
          rintro _ _ ⟨g74, c74, rfl, rfl⟩
          refine TL.eff rfl rfl rfl (X.call rfl Try.func26 (by kernel_rfl) rfl rfl (Fn.preE (by repeat first | (with_reducible apply Ent.refl) | (apply Ent.cons; case h => first | (with_reducible (repeat first | apply Pull.here | apply Pull.there); done) | (repeat first | apply Pull.here | apply Pull.there))) (refSign_fn cls mth (id0 at_) ba bc l4 _ _ _ (bl key) rfl hk (by omega) _))) ?_
          rintro _ _ ⟨a75, c75, rfl, rfl⟩
          rw [hSM]
          obtain ⟨o, ho⟩ : ∃ o, o = (msgP user cls mth pr cand more at_).sgn (bl key) := ⟨_, rfl⟩
          rw [← ho]
          refine TL.val rfl rfl rfl (Y.move rfl rfl) ?_
          refine TL.val rfl rfl rfl (Y.extract rfl rfl rfl) ?_
          refine TL.val rfl rfl rfl (Y.extract rfl rfl rfl) ?_
          refine TL.val rfl rfl rfl (Y.assign rfl rfl) ?_
          refine TL.val rfl rfl rfl (Y.assign rfl rfl) ?_
          refine TL.nil ?_
          refine TQ.next ?_
          refine TC.cutF (ι := Option Addr × Nat × List UInt8) [] (fun i => i.2.2 = signP (msgP user cls mth pr cand more at_) key) (fun i => [(5, some (.slice i.1 i.2.2.length i.2.1))]) (fun i => [SA.owns 5 1 (.slice i.1 i.2.2.length i.2.1) i.2.2.length (i.2.2.map v8)]) (Ao := [SA.owns 5 1 (.slice a75 (ob o).length c75) (ob o).length ((ob o).map v8)]) (Pulls.cons pul Pulls.nil) ?_ ?_
          · rintro L' hL'
            simp only [List.cons_append, List.nil_append] at hL'
            subst hL'
            refine TC.seq ?_
            refine TC.region ?_
            refine TL.val rfl rfl rfl (by first | exact Y.fieldAddrJ rfl fo32_3 rfl nqq | exact Y.fieldAddr rfl fo32_3 rfl nqq) ?_
            refine TL.val rfl rfl rfl (Y.load rfl sc9 rfl celD) ?_
            refine TL.as (vS key) (by rfl) ?_
            refine TL.val rfl rfl rfl (Y.eqB rfl rfl rfl) ?_
            refine TL.val rfl rfl rfl (Y.move rfl rfl) ?_
            refine TL.case (fun g17_3 => ?_) (fun g17_3 => ?_)
            · try simp only [decide_eq_true_eq, decide_eq_false_iff_not, Bool.not_eq_true', Bool.not_eq_false', Nat.not_lt, Nat.not_le, beq_iff_eq, bne_iff_ne] at g17_3
              refine TL.not rfl rfl rfl ?_
              refine TL.not rfl rfl rfl ?_
              refine TL.val rfl rfl rfl (Y.pick_t rfl rfl rfl) ?_
              refine TL.nil ?_
              refine TQ.next ?_
              refine TC.cond_t rfl ?_
              have hsg : ob (msgP user cls mth pr cand more at_).build = signP (msgP user cls mth pr cand more at_) key := by
                rw [signP, if_pos]
                first
                | exact .inl (by simpa using g17_3)
                | exact .inr (by rw [← ho]; exact c6)
              refine TC.region ?_
              refine TL.val rfl rfl rfl (Y.loadAgg rfl ag43 rfl (Cels.all (cs := msgC cls mth (id0 at_) (.slice ba l4.length bc)) inn) (by first | rfl | ((try simp only [List.length_map, List.length_set, List.length_replicate]); omega))) ?_
              refine TL.as (.agg (msgC cls mth (id0 at_) (.slice ba l4.length bc))) (by rfl) ?_
              refine TL.eff rfl rfl rfl (X.call rfl Try.func27 (by kernel_rfl) rfl rfl (Fn.preE (by repeat first | (with_reducible apply Ent.refl) | (apply Ent.cons; case h => first | (with_reducible (repeat first | apply Pull.here | apply Pull.there); done) | (repeat first | apply Pull.here | apply Pull.there))) (refBuild_fn cls mth (id0 at_) ba bc l4 _))) ?_
              rintro _ _ ⟨a87, c87, rfl, rfl⟩
              rw [hSM]
              refine TL.val rfl rfl rfl (Y.move rfl rfl) ?_
              refine TL.val rfl rfl rfl (Y.extract rfl rfl rfl) ?_
              refine TL.val rfl rfl rfl (Y.extract rfl rfl rfl) ?_
              refine TL.val rfl rfl rfl (Y.assign rfl rfl) ?_
              refine TL.nil ?_
              refine TQ.meetF ((by first | exact (a87, c87, ob (msgP user cls mth pr cand more at_).build) | exact (a75, c75, ob o))) (hsg) ⟨rfl, trivial⟩ (by (repeat first | apply Grow.refl | apply Grow.step | apply Grow.app)) ?_ ?_
              · kernel_rfl
              · simp only [List.cons_append, List.nil_append]
                exact ett
            · try simp only [decide_eq_true_eq, decide_eq_false_iff_not, Bool.not_eq_true', Bool.not_eq_false', Nat.not_lt, Nat.not_le, beq_iff_eq, bne_iff_ne] at g17_3
              refine TL.valG rfl rfl rfl (Y.move rfl rfl) ?_
              refine TL.valG rfl rfl rfl (Y.bin rfl rfl rfl (br_neN (n := 0))) ?_
              refine TL.val rfl rfl rfl (Y.pick_f rfl rfl rfl) ?_
              refine TL.nil ?_
              refine TQ.next ?_
              refine TC.cond rfl (fun c6 => ?_) (fun c6 => ?_)
              · try simp only [decide_eq_true_eq, decide_eq_false_iff_not, Bool.not_eq_true', Bool.not_eq_false', Bool.and_eq_true, Bool.or_eq_true, Nat.not_lt, Nat.not_le, beq_iff_eq, bne_iff_ne] at c6
                have hsg : ob (msgP user cls mth pr cand more at_).build = signP (msgP user cls mth pr cand more at_) key := by
                  rw [signP, if_pos]
                  first
                  | exact .inl (by simpa using g17_3)
                  | exact .inr (by rw [← ho]; exact c6)
                refine TC.region ?_
                refine TL.val rfl rfl rfl (Y.loadAgg rfl ag43 rfl (Cels.all (cs := msgC cls mth (id0 at_) (.slice ba l4.length bc)) inn) (by first | rfl | ((try simp only [List.length_map, List.length_set, List.length_replicate]); omega))) ?_
                refine TL.as (.agg (msgC cls mth (id0 at_) (.slice ba l4.length bc))) (by rfl) ?_
                refine TL.eff rfl rfl rfl (X.call rfl Try.func27 (by kernel_rfl) rfl rfl (Fn.preE (by repeat first | (with_reducible apply Ent.refl) | (apply Ent.cons; case h => first | (with_reducible (repeat first | apply Pull.here | apply Pull.there); done) | (repeat first | apply Pull.here | apply Pull.there))) (refBuild_fn cls mth (id0 at_) ba bc l4 _))) ?_
                rintro _ _ ⟨a87, c87, rfl, rfl⟩
                rw [hSM]
                refine TL.val rfl rfl rfl (Y.move rfl rfl) ?_
                refine TL.val rfl rfl rfl (Y.extract rfl rfl rfl) ?_
                refine TL.val rfl rfl rfl (Y.extract rfl rfl rfl) ?_
                refine TL.val rfl rfl rfl (Y.assign rfl rfl) ?_
                refine TL.nil ?_
                refine TQ.meetF ((by first | exact (a87, c87, ob (msgP user cls mth pr cand more at_).build) | exact (a75, c75, ob o))) (hsg) ⟨rfl, trivial⟩ (by (repeat first | apply Grow.refl | apply Grow.step | apply Grow.app)) ?_ ?_
                · kernel_rfl
                · simp only [List.cons_append, List.nil_append]
                  exact ett
              · try simp only [decide_eq_true_eq, decide_eq_false_iff_not, Bool.not_eq_true', Bool.not_eq_false', Bool.and_eq_true, Bool.or_eq_true, Nat.not_lt, Nat.not_le, beq_iff_eq, bne_iff_ne] at c6
                have hsg : ob o = signP (msgP user cls mth pr cand more at_) key := by
                  rw [signP, if_neg, ho]
                  rintro (h | h)
                  · simp_all
                  · rw [← ho] at h; exact h c6
                refine TC.skip ?_
                refine TQ.meetF ((by first | exact (a87, c87, ob (msgP user cls mth pr cand more at_).build) | exact (a75, c75, ob o))) (hsg) ⟨rfl, trivial⟩ (by (repeat first | apply Grow.refl | apply Grow.step | apply Grow.app)) ?_ ?_
                · kernel_rfl
                · simp only [List.cons_append, List.nil_append]
                  exact ett
          · rintro ⟨sa, sc, s⟩ hs F' L' rfl hL'
            simp only [List.cons_append, List.nil_append] at hL'
            subst hL'
            simp only at hs ⊢
            rw [← hs] at hol
            rw [← hs]
            refine TC.cutF (ι := List UInt8) [] (fun s' => s' = addAt s at_ by_) (fun s' => []) (fun s' => [SA.owns 5 1 (.slice sa s.length sc) s.length (s'.map v8)]) (Ao := [SA.owns 5 1 (.slice sa s.length sc) s.length (s.map v8)]) (Pulls.cons pul Pulls.nil) ?_ ?_
            · rintro L' hL'
              simp only [List.cons_append, List.nil_append] at hL'
              subst hL'
              refine TC.seq ?_
              refine TC.region ?_
              refine TL.val rfl rfl rfl (Y.move rfl rfl) ?_
              refine TL.val rfl rfl rfl (Y.len rfl Try.underlying30 rfl) ?_
              refine TL.val rfl rfl rfl (Y.bin rfl rfl rfl (br_gtN (n := 0))) ?_
              refine TL.nil ?_
              refine TQ.next ?_
              refine TC.cond rfl (fun c7 => ?_) (fun c7 => ?_)
              · try simp only [decide_eq_true_eq, decide_eq_false_iff_not, Bool.not_eq_true', Bool.not_eq_false', Bool.and_eq_true, Bool.or_eq_true, Nat.not_lt, Nat.not_le, beq_iff_eq, bne_iff_ne] at c7
                have had : s.set (un at_ % s.length) (s.getD (un at_ % s.length) 0 + by_) = addAt s at_ by_ := by rw [addAt, if_pos c7]
                have hmod := Nat.mod_lt (un at_) c7
                refine TC.know (owns_some (a := sa) inn c7) ?_
                rintro ⟨sg, so, rfl⟩
                refine TC.draws 15 _ (by kernel_rfl) (by kernel_rfl) (fun _ h => h) ?_
                refine TA.take 0 rfl rfl rfl rfl (by kernel_rfl) (by kernel_rfl) (by kernel_rfl) rfl (by kernel_rfl) (by kernel_rfl) (fun _ _ _ h => h) (Y.move rfl rfl) ?_
                refine TA.take 1 rfl rfl rfl rfl (by kernel_rfl) (by kernel_rfl) (by kernel_rfl) rfl (by kernel_rfl) (by kernel_rfl) (fun _ _ _ h => h) (by first | exact Y.fieldAddrJ rfl fo32_9 rfl nqq | exact Y.fieldAddr rfl fo32_9 rfl nqq) ?_
                refine TA.take 2 rfl rfl rfl rfl (by kernel_rfl) (by kernel_rfl) (by kernel_rfl) rfl (by kernel_rfl) (by kernel_rfl) (fun _ _ _ h => h) (Y.load rfl sc3 rfl celN) ?_
                refine TA.as (vI at_) (by rfl) ?_
                refine TA.take 3 rfl rfl rfl rfl (by kernel_rfl) (by kernel_rfl) (by kernel_rfl) rfl (by kernel_rfl) (by kernel_rfl) (fun _ _ _ h => h) (Y.conv rfl Try.underlying3 Try.underlying80 rfl (cv_un at_)) ?_
                refine TA.take 4 rfl rfl rfl rfl (by kernel_rfl) (by kernel_rfl) (by kernel_rfl) rfl (by kernel_rfl) (by kernel_rfl) (fun _ _ _ h => h) (Y.move rfl rfl) ?_
                refine TA.take 5 rfl rfl rfl rfl (by kernel_rfl) (by kernel_rfl) (by kernel_rfl) rfl (by kernel_rfl) (by kernel_rfl) (fun _ _ _ h => h) (Y.len rfl Try.underlying30 rfl) ?_
                refine TA.take 6 rfl rfl rfl rfl (by kernel_rfl) (by kernel_rfl) (by kernel_rfl) rfl (by kernel_rfl) (by kernel_rfl) (fun _ _ _ h => h) (Y.conv rfl Try.underlying3 Try.underlying80 rfl (cv_N_64n (by omega))) ?_
                refine TA.take 7 rfl rfl rfl rfl (by kernel_rfl) (by kernel_rfl) (by kernel_rfl) rfl (by kernel_rfl) (by kernel_rfl) (fun _ _ _ h => h) (Y.bin rfl rfl rfl (br_remU (by omega))) ?_
                refine TA.take 8 rfl rfl rfl rfl (by kernel_rfl) (by kernel_rfl) (by kernel_rfl) rfl (by kernel_rfl) (by kernel_rfl) (fun _ _ _ h => h) (Y.conv rfl Try.underlying80 Try.underlying3 rfl (cv_64n_N (by omega))) ?_
                refine TA.take 9 rfl rfl rfl rfl (by kernel_rfl) (by kernel_rfl) (by kernel_rfl) rfl (by kernel_rfl) (by kernel_rfl) (fun _ _ _ h => h) (by first | exact Y.indexSlB rfl sl30 rfl rfl (by omega) nqq | exact Y.indexSl rfl sl30 rfl rfl (by omega) nqq) ?_
                refine TA.take 10 rfl rfl rfl rfl (by kernel_rfl) (by kernel_rfl) (by kernel_rfl) rfl (by kernel_rfl) (by kernel_rfl) (fun _ _ _ h => h) (Y.load rfl sc5 rfl cel8) ?_
                refine TA.take 11 rfl rfl rfl rfl (by kernel_rfl) (by kernel_rfl) (by kernel_rfl) rfl (by kernel_rfl) (by kernel_rfl) (fun _ _ _ h => h) (by first | exact Y.fieldAddrJ rfl fo32_10 rfl nqq | exact Y.fieldAddr rfl fo32_10 rfl nqq) ?_
                refine TA.take 12 rfl rfl rfl rfl (by kernel_rfl) (by kernel_rfl) (by kernel_rfl) rfl (by kernel_rfl) (by kernel_rfl) (fun _ _ _ h => h) (Y.load rfl sc5 rfl cel8) ?_
                refine TA.as (v8 by_) (by rfl) ?_
                refine TA.take 13 rfl rfl rfl rfl (by kernel_rfl) (by kernel_rfl) (by kernel_rfl) rfl (by kernel_rfl) (by kernel_rfl) (fun _ _ _ h => h) (Y.bin rfl rfl rfl (br_add8)) ?_
                refine TA.take 14 rfl rfl rfl rfl (by kernel_rfl) (by kernel_rfl) (by kernel_rfl) rfl (by kernel_rfl) (by kernel_rfl) (fun _ _ _ h => h) (by first | exact Y.indexSlB rfl sl30 rfl rfl (by omega) nqq | exact Y.indexSl rfl sl30 rfl rfl (by omega) nqq) ?_
                refine TA.one0 15 (by kernel_rfl) rfl rfl rfl (by first | exact X.store rfl sz5 rfl rfl rfl pul lnn (by first | exact setM | rfl) | exact X.storeOwn rfl sz5 rfl (Nat.zero_add _).symm rfl rfl pul lnn (by first | exact setML | rfl) | exact X.storeOwn rfl sz5 rfl rfl rfl rfl pul lnn (by first | exact setML | rfl)) ?_
                rintro _ _ rfl
                refine ⟨(Or.inl (by kernel_rfl)), ?_⟩
                refine TA.done (by kernel_rfl) ?_
                refine TQ.meetF (ι := List UInt8) (I := fun s' => s' = addAt s at_ by_) (C := fun (_ : List UInt8) => []) (U := []) (_) (had) trivial (by (repeat first | apply Grow.refl | apply Grow.step | apply Grow.app)) ?_ ?_
                · kernel_rfl
                · simp only [List.cons_append, List.nil_append]
                  exact ett
              · try simp only [decide_eq_true_eq, decide_eq_false_iff_not, Bool.not_eq_true', Bool.not_eq_false', Bool.and_eq_true, Bool.or_eq_true, Nat.not_lt, Nat.not_le, beq_iff_eq, bne_iff_ne] at c7
                have had : s = addAt s at_ by_ := by rw [addAt, if_neg (by omega)]
                refine TC.skip ?_
                refine TQ.meetF (ι := List UInt8) (I := fun s' => s' = addAt s at_ by_) (C := fun (_ : List UInt8) => []) (U := []) (_) (had) trivial (by (repeat first | apply Grow.refl | apply Grow.step | apply Grow.app)) ?_ ?_
                · kernel_rfl
                · simp only [List.cons_append, List.nil_append]
                  exact ett
            · rintro s' hs' F' L' rfl hL'
              simp only [List.cons_append, List.nil_append] at hL'
              subst hL'
              rw [← hs', show s.length = s'.length by rw [hs', addAt_len]]
              refine TC.seq ?_
              refine TC.region ?_
              refine TL.val rfl rfl rfl (Y.move rfl rfl) ?_
              refine TL.val rfl rfl rfl (Y.assign rfl rfl) ?_
              refine TL.nil ?_
              refine TQ.next ?_
              refine TC.ret ?_
              refine TQ.retE (res1 rfl rfl) (⟨_, _, rfl, rfl⟩) ?_
              exact (Ent.trans (Pull.ent (A := SA.owns 5 1 (.slice sa s'.length sc) s'.length (s'.map v8)) pul) (Ent.trans Ent.freeze ett))
end
end ice
end Go.Proofs.Ytpmplnkempcmjaa

/- ice: a check that is taken, whatever its tag; what any datagram does. -/
namespace Go.Proofs.Ytpmplnkempcmjaa
set_option linter.unusedVariables false
set_option linter.unusedSimpArgs false
open Go.RowKit
namespace ice
open stun
--FACTS
theorem signed_taken {m : SMsg} {key s : List UInt8} {f0 : Nat → UInt8} (hid : m.id = idL f0) (h : m.sgn key = some s) :
    PR s m.cls m.mth f0 (m.attrs ++ [(8, tagT m key), (32808, sumC m key)]) 0 ∧ goodK s key := by
  have hb := sgn_sum (by rw [hid]; rfl) h
  have hp : PR s m.cls m.mth f0 (m.attrs ++ [(8, tagT m key), (32808, sumC m key)]) 0 := .inl ⟨rfl, by rw [← hid]; exact hb⟩
  have hm : (⟨m.cls, m.mth, idL f0, m.attrs⟩ : SMsg) = m := by rw [← hid]
  refine ⟨hp, m.cls, m.mth, f0, m.attrs ++ [(8, tagT m key), (32808, sumC m key)], m.cls, m.mth, f0, _, 0, hp, .inl ⟨rfl, by simp, ?_, rfl, rfl, rfl, rfl, rfl⟩⟩
  rw [show (m.attrs ++ [((8 : UInt16), tagT m key), (32808, sumC m key)]).length - 2 = m.attrs.length by simp, List.take_left, hm]; exact h
/-- the statements' own check -/
def sU : ByteArray := ⟨#[97, 98, 58, 120]⟩
def sK : ByteArray := ⟨#[112, 119]⟩
def sN : ByteArray := ⟨#[97, 98]⟩
def m0 : SMsg := msgP sU 0 1 true true [] 0
theorem m0_at : m0.attrs = [(6, [97, 98, 58, 120]), (36, [1, 2, 3, 4]), (37, [])] := rfl
theorem m0_some : ∃ s, m0.sgn (bl sK) = some s ∧ s.length ≤ 1500 := by
  have hw : m0.whole.length = 40 := by decide +kernel
  have hg : m0.good = true := by decide +kernel
  have hb : m0.build = some m0.whole := by rw [SMsg.build, if_pos ⟨hg, by omega⟩]
  have h : m0.sgn (bl sK) = some (stun.fin (bl sK) m0.whole) := sgn_some2 (by decide +kernel) hb (by omega)
  exact ⟨_, h, ((build_iff _ _).1 (sgn_sum (m := m0) rfl h)).2.1⟩
theorem addAt_zero (s : List UInt8) (a : Int) : addAt s a 0 = s := by
  unfold addAt
  split
  · rename_i h
    have hl := Nat.mod_lt (un a) h
    apply List.ext_getElem?
    intro i
    rw [List.getElem?_set]
    split
    · rename_i e; subst e; simp [hl]
    · rfl
  · rfl
theorem bytes0 {s : List UInt8} (h : m0.sgn (bl sK) = some s) : addAt (signP (msgP sU 0 1 true true [] 0) sK) 0 0 = s := by
  rw [addAt_zero, show msgP sU 0 1 true true [] 0 = m0 from rfl, signP, if_neg, h]
  · rfl
  · rintro (e | e)
    · exact absurd e (by decide)
    · rw [h] at e; exact e rfl
theorem taken0 {s : List UInt8} (h : m0.sgn (bl sK) = some s) : ∃ ps, PR s 0 1 (id0 0) ps 0 ∧ AllOk (nmB sN) (bl sK) s ps ∧ fo (findP ps 37) = true := by
  obtain ⟨hp, hk⟩ := signed_taken (f0 := id0 0) rfl h
  rw [m0_at] at hp
  obtain ⟨t, ht⟩ : ∃ t, t = tagT m0 (bl sK) := ⟨_, rfl⟩
  obtain ⟨u, hu⟩ : ∃ u, u = sumC m0 (bl sK) := ⟨_, rfl⟩
  rw [← ht, ← hu] at hp
  exact ⟨_, hp, ⟨rfl, rfl, hk, rfl, rfl, rfl, rfl⟩, rfl⟩
theorem upd_len {l : List Pr} {a : Ad} {clk : Int} {c : Bool} (h : (l.findIdx? (eqA a)).isSome = true ∨ l.length < 4) (h4 : l.length ≤ 4) : (upd l a clk c).length ≤ 4 := by
  rw [upd, fin_len, setL_len, pl1]
  split
  · exact h4
  · rename_i e
    rcases h with h | h
    · rw [e] at h; cases h
    · rw [List.length_append]; show l.length + 1 ≤ 4; omega
section
variable (ab : Nat) (na : Option Addr) (nc : Nat) (name : List UInt8) (pa : Option Addr) (pc : Nat) (pw : List UInt8) (la : Option Addr) (lc : Nat) (l : List Pr) (clk : Int) (a : Option Addr) (n cap : Nat) (b : List UInt8) (hn : b.length = n) (hr : n ≤ 140737488351232) (hpw : pw.length ≤ 140737488351232)
  (ip : UInt32) (port : UInt16) (now : Int)
include hn hr hpw
theorem Handle_any (hl4 : l.length ≤ 4) (L : List SA) :
    Fn Try.prog 9 [pt ab 0, .slice a n cap, .agg #[v32 ip, v16 port], vI now] (SA.blk ab (agC na name.length nc pa pw.length pc la l.length lc clk) 55 :: SA.owns 70 4 (.slice la l.length lc) l.length (Dat.cs l) :: SA.rds 1 (.slice na name.length nc) name.length (name.map v8) :: SA.rds 1 (.slice pa pw.length pc) pw.length (pw.map v8) :: SA.rds 1 (.slice a n cap) n (b.map v8) :: L)
      (fun v L' => ∃ oa on oc e la' lc' l' clk', v = .tuple #[.slice oa on oc, vN e] ∧ (e = 0 ∧ goodK b pw ∨ e ≠ 0 ∧ l' = l) ∧ l'.length ≤ 4 ∧
        L' = SA.blk ab (agC na name.length nc pa pw.length pc la' l'.length lc' clk') 55 :: SA.owns 70 4 (.slice la' l'.length lc') l'.length (Dat.cs l') :: SA.rds 1 (.slice na name.length nc) name.length (name.map v8) :: SA.rds 1 (.slice pa pw.length pc) pw.length (pw.map v8) :: SA.rds 1 (.slice a n cap) n (b.map v8) :: L) := by
  by_cases h : ∃ f ps, PR b 0 1 f ps 0 ∧ AllOk name pw b ps
  · obtain ⟨f, ps, hp, ha⟩ := h
    by_cases hroom : (l.findIdx? (eqA (ip, port))).isSome = true ∨ l.length < 4
    · refine (Handle_ok ab na nc name pa pc pw la lc l clk a n cap b hn hr hpw ip port now f ps hp ha hroom hl4 L).mono ?_
      rintro v L' ⟨oa, oc, la', lc', rfl, rfl⟩
      exact ⟨_, Ent.refl, oa, 64, oc, 0, la', lc', _, _, rfl, .inl ⟨rfl, ha.key⟩, upd_len hroom hl4, rfl⟩
    · simp only [not_or, Bool.not_eq_true, Option.isSome_eq_false_iff, Option.isNone_iff_eq_none, Nat.not_lt] at hroom
      refine (Handle_full ab na nc name pa pc pw la lc l clk a n cap b hn hr hpw ip port now f ps hp ha hroom.1 (by omega) L).mono ?_
      rintro v L' ⟨rfl, rfl⟩
      exact ⟨_, Ent.refl, none, 0, 0, 6, la, lc, l, _, rfl, .inr ⟨by decide, rfl⟩, hl4, rfl⟩
  · refine (Handle_no ab na nc name pa pc pw la lc l clk a n cap b hn hr hpw ip port now (fun f ps hp ha => h ⟨f, ps, hp, ha⟩) L).mono ?_
    rintro v L' ⟨oa, on, oc, e, rfl, he, rfl⟩
    exact ⟨_, Ent.refl, oa, on, oc, e, la, lc, l, _, rfl, .inr ⟨he, rfl⟩, hl4, rfl⟩
end
end ice
end Go.Proofs.Ytpmplnkempcmjaa
