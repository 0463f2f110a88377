/- assoc: numbers from bytes; the document's Number, walked. -/
import Derived.Test.YtomplpdeeomehaaAsD
import Derived.Test.YtomplpdeeomehaaHAuto
namespace Go.Proofs.Ytomplpdeeomehaa
set_option linter.unusedVariables false
set_option linter.unusedSimpArgs false
open Go.RowKit
namespace ac
open rd (num num1)
namespace FxAsN
set_option maxRecDepth 100000
theorem sc5 : Program.isSc Try.prog 5 = true := by kernel_rfl
theorem sl23 : Program.slI Try.prog 23 = some 1 := by kernel_rfl
end FxAsN
open FxAsN
theorem or_add (x y : Nat) (h : y < 256) : x * 256 ||| y = x * 256 + y := by
  have := Nat.two_pow_add_eq_or_of_lt (i := 8) h x
  rw [Nat.mul_comm x 256, this]
theorem num4 (x y z u : UInt8) : (num [x, y, z, u]).toNat = ((x.toNat * 256 + y.toNat) * 256 + z.toNat) * 256 + u.toNat := by
  have hx := x.toNat_lt; have hy := y.toNat_lt; have hz := z.toNat_lt; have hu := u.toNat_lt
  have step : ∀ (n : Nat) (c : UInt8), n < 16777216 → (num1 (UInt32.ofNat n) c) = UInt32.ofNat (n * 256 + c.toNat) := fun n c hn => by
    have hc := c.toNat_lt
    apply UInt32.toNat_inj.1
    rw [UInt32.toNat_ofNat_of_lt' (by show _ < 4294967296; omega)]
    simp only [num1, shl32]
    rw [UInt32.toNat_or, UInt32.toNat_ofNat_of_lt' (show n < 4294967296 by omega)]
    simp
    rw [show n * 256 % 4294967296 = n * 256 by omega, or_add _ _ (by omega)]
  have e : num [x, y, z, u] = UInt32.ofNat (((x.toNat * 256 + y.toNat) * 256 + z.toNat) * 256 + u.toNat) := by
    simp only [num, List.foldl_cons, List.foldl_nil]
    rw [show (0 : UInt32) = UInt32.ofNat 0 from rfl, step 0 x (by omega), step _ y (by omega), step _ z (by omega), step _ u (by omega)]
    rw [Nat.zero_mul, Nat.zero_add]
  rw [e, UInt32.toNat_ofNat_of_lt' (by show _ < 4294967296; omega)]
def num641 (x : UInt64) (c : UInt8) : UInt64 := shl64 x 8 ||| c.toUInt64
def num64 (l : List UInt8) : UInt64 := l.foldl num641 0
theorem num64_s (l : List UInt8) (k : Nat) (h : k < l.length) : num64 (l.take (k + 1)) = num641 (num64 (l.take k)) (l.getD k 0) := by
  rw [num64, List.take_add_one, List.foldl_append, List.getElem?_eq_getElem h, List.getD_eq_getElem?_getD, List.getElem?_eq_getElem h]
  rfl
theorem step64 (n : Nat) (c : UInt8) (hn : n < 16777216) : num641 (UInt64.ofNat n) c = UInt64.ofNat (n * 256 + c.toNat) := by
  have hc := c.toNat_lt
  apply UInt64.toNat_inj.1
  rw [UInt64.toNat_ofNat_of_lt' (by show _ < 18446744073709551616; omega)]
  simp only [num641, shl64]
  rw [UInt64.toNat_or, UInt64.toNat_ofNat_of_lt' (show n < 18446744073709551616 by omega)]
  simp
  rw [show n * 256 % 18446744073709551616 = n * 256 by omega, or_add _ _ (by omega)]
theorem num64_4 (x y z u : UInt8) : (num64 [x, y, z, u]).toNat = (num [x, y, z, u]).toNat := by
  have hx := x.toNat_lt; have hy := y.toNat_lt; have hz := z.toNat_lt; have hu := u.toNat_lt
  have e : num64 [x, y, z, u] = UInt64.ofNat (((x.toNat * 256 + y.toNat) * 256 + z.toNat) * 256 + u.toNat) := by
    simp only [num64, List.foldl_cons, List.foldl_nil]
    rw [show (0 : UInt64) = UInt64.ofNat 0 from rfl, step64 0 x (by omega), step64 _ y (by omega), step64 _ z (by omega), step64 _ u (by omega), Nat.zero_mul, Nat.zero_add]
  rw [num4, e, UInt64.toNat_ofNat_of_lt' (by show _ < 18446744073709551616; omega)]
theorem Number_gen (A : SA) (a : Option Addr) (n cap : Nat) (l : List UInt8) (hA : Reads A 1 (.slice a n cap) n (l.map v8)) (hn : l.length = n) (L : List SA) :
    Fn Try.prog 13 [.slice a n cap] (A :: L) (fun v L' => v = v64 (num64 l) ∧ L' = A :: L) := by
  refine Fn.of (N := 20) Try.func13 rfl rfl ?_
  intro Xh
  refine TC.know (reads_cap hA (a := a) (n := n) (cap := cap) (cs := l.map v8) inn) ?_
  rintro ⟨hc1, hc2, -, -⟩
  simp only [maxLen] at hc2
  refine TC.seq ?_
  refine TC.region ?_
  refine TL.val rfl rfl rfl (Y.assign rfl rfl) ?_
  refine TL.nil ?_
  refine TQ.next ?_
  refine TC.seq ?_
  refine TC.region ?_
  refine TL.val rfl rfl rfl (Y.assign rfl rfl) ?_
  refine TL.nil ?_
  refine TQ.next ?_
  refine TC.seq ?_
  refine TC.seq ?_
  refine TC.region ?_
  refine TL.val rfl rfl rfl (Y.move rfl rfl) ?_
  refine TL.val rfl rfl rfl (Y.len rfl Try.underlying23 rfl) ?_
  refine TL.val rfl rfl rfl (Y.move rfl rfl) ?_
  refine TL.nil ?_
  refine TQ.next ?_
  refine TC.block ?_
  refine TC.loopF (ι := Nat) [] (fun k => k ≤ n) (fun k => [(7, some (vN k)), (3, some (v64 (num64 (l.take k))))]) (fun k => []) (fun k => n - k) (0) (by omega) ⟨rfl, rfl, trivial⟩ Pulls.nil ?_
  rintro k hk F' L' rfl hL'
  simp only [List.cons_append, List.nil_append] at hL'
  subst hL'
  refine TC.seq ?_
  refine TC.region ?_
  refine TL.val rfl rfl rfl (Y.bin rfl rfl rfl (br_ltN)) ?_
  refine TL.nil ?_
  refine TQ.next ?_
  refine TC.seq ?_
  refine TC.cond rfl (fun c0 => ?_) (fun c0 => ?_)
  · try simp only [decide_eq_true_eq, decide_eq_false_iff_not, Bool.not_eq_true', Bool.not_eq_false', Bool.and_eq_true, Bool.or_eq_true, Nat.not_lt, Nat.not_le, beq_iff_eq, bne_iff_ne] at c0
    refine TC.skip ?_
    refine TQ.next ?_
    refine TC.seq ?_
    refine TC.block ?_
    refine TC.seq ?_
    refine TC.region ?_
    refine TL.val rfl rfl rfl (Y.move rfl rfl) ?_
    refine TL.val rfl rfl rfl (Y.assign rfl rfl) ?_
    refine TL.nil ?_
    refine TQ.next ?_
    refine TC.know (reads_some hA (a := a) (n := n) (cap := cap) (cs := l.map v8) inn (by omega) (by decide)) ?_
    rintro ⟨g, off, rfl⟩
    obtain ⟨x, hx, -⟩ := getS (l := l) (i := k) (by omega)
    have hd : l.getD k 0 = x := by rw [List.getD_eq_getElem?_getD, hx]; rfl
    refine TC.region ?_
    refine TL.val rfl rfl rfl (Y.move rfl rfl) ?_
    refine TL.val rfl rfl rfl (Y.bin rfl rfl rfl (br_shl64 (n := 8))) ?_
    refine TL.val rfl rfl rfl (Y.move rfl rfl) ?_
    refine TL.val rfl rfl rfl (Y.move rfl rfl) ?_
    refine TL.val rfl rfl rfl (by first | exact Y.indexSlB rfl sl23 rfl rfl (by omega) nqq | exact Y.indexSl rfl sl23 rfl rfl (by omega) nqq) ?_
    refine TL.val rfl rfl rfl (Y.load rfl sc5 rfl (Cel.atS (l := l) hA inn hx rfl)) ?_
    refine TL.val rfl rfl rfl (Y.conv rfl Try.underlying5 Try.underlying32 rfl (cv_8_64)) ?_
    refine TL.val rfl rfl rfl (Y.bin rfl rfl rfl (br_or64)) ?_
    refine TL.as (v64 (num64 (l.take (k + 1)))) (by (rw [num64_s l k (by omega), hd]; rfl)) ?_
    refine TL.val rfl rfl rfl (Y.assign rfl rfl) ?_
    refine TL.nil ?_
    refine TQ.block_normal ?_
    refine TQ.next ?_
    refine TC.region ?_
    refine TL.val rfl rfl rfl (Y.bin rfl rfl rfl (br_addN (n := 1) (by omega))) ?_
    refine TL.val rfl rfl rfl (Y.move rfl rfl) ?_
    refine TL.nil ?_
    refine TQ.loopF (k + 1) (by omega) (by omega) ⟨rfl, rfl, trivial⟩ (by (repeat first | apply Grow.refl | apply Grow.step | apply Grow.app)) ?_ ?_ ?_
    · kernel_rfl
    · rfl
    · simp only [List.cons_append, List.nil_append]
      exact ett
  · try simp only [decide_eq_true_eq, decide_eq_false_iff_not, Bool.not_eq_true', Bool.not_eq_false', Bool.and_eq_true, Bool.or_eq_true, Nat.not_lt, Nat.not_le, beq_iff_eq, bne_iff_ne] at c0
    refine TC.exit ?_
    refine TQ.then_exit ?_
    refine TQ.then_exit ?_
    refine TQ.block_exit ?_
    refine TQ.next ?_
    refine TC.seq ?_
    obtain rfl : k = l.length := by omega
    rw [List.take_length]
    refine TC.region ?_
    refine TL.val rfl rfl rfl (Y.move rfl rfl) ?_
    refine TL.val rfl rfl rfl (Y.assign rfl rfl) ?_
    refine TL.nil ?_
    refine TQ.next ?_
    refine TC.ret ?_
    refine TQ.retE (res1 rfl rfl) (⟨rfl, rfl⟩) ?_
    exact ett
/-- four bytes of a list -/
theorem four {l : List UInt8} {k : Nat} (h : k + 4 ≤ l.length) : ∃ x y z u, (l.drop k).take 4 = [x, y, z, u] ∧ l[k]? = some x := by
  have hd : 4 ≤ (l.drop k).length := by rw [List.length_drop]; omega
  have h0 : (l.drop k)[0]? = l[k]? := by simp
  rcases hl : l.drop k with _ | ⟨x, _ | ⟨y, _ | ⟨z, _ | ⟨u, r⟩⟩⟩⟩ <;> rw [hl] at hd h0 <;> simp at hd
  exact ⟨x, y, z, u, rfl, by rw [← h0]; rfl⟩
theorem kind_byte {l : List UInt8} (h : 8 ≤ l.length) {k : UInt32} (hk : shr32 (n32 l 4) 24 = k) : ∃ x, l[4]? = some x ∧ x.toNat = k.toNat := by
  obtain ⟨x, y, z, u, h1, h2⟩ := four (l := l) (k := 4) (by omega)
  refine ⟨x, h2, ?_⟩
  have hx := x.toNat_lt; have hy := y.toNat_lt; have hz := z.toNat_lt; have hu := u.toNat_lt
  rw [← hk, n32, h1, shr32, num4, UInt32.toNat_ofNat_of_lt' (by show _ < 4294967296; omega)]
  omega
end ac
end Go.Proofs.Ytomplpdeeomehaa
