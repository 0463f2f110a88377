/- AES: the round keys, as the program makes them. -/
import Derived.Test.YtpddnhjpjmbgfaaAesSmall
namespace Go.Proofs.Ytpddnhjpjmbgfaa
set_option linter.unusedVariables false
set_option linter.unusedSimpArgs false
open Go.RowKit
namespace aes
namespace FxAesExpand
set_option maxRecDepth 100000
theorem ag22 : Program.aggN Try.prog 22 = some 16 := by kernel_rfl
theorem ar22 : Program.arrI Try.prog 22 = some (16, 1) := by kernel_rfl
theorem ar34 : Program.arrI Try.prog 34 = some (256, 1) := by kernel_rfl
theorem ar42 : Program.arrI Try.prog 42 = some (11, 16) := by kernel_rfl
theorem fo44_0 : Program.fieldOff Try.prog 44 0 = some 0 := by kernel_rfl
theorem fo44_1 : Program.fieldOff Try.prog 44 1 = some 256 := by kernel_rfl
theorem pl44 : Program.places Try.prog 44 = some [(0, 256), (256, 176)] := by kernel_rfl
theorem sc5 : Program.isSc Try.prog 5 = true := by kernel_rfl
theorem sz22 : (Try.prog.info? 22).map (·.size) = some 16 := by kernel_rfl
theorem sz5 : (Try.prog.info? 5).map (·.size) = some 1 := by kernel_rfl
theorem zc44 : Program.zeroC Try.prog 44 = some ((List.replicate 432 (0 : UInt8)).map v8).toArray := by kernel_rfl
end FxAesExpand
open FxAesExpand
/-! ### S by p and q -/
def q1 (q : UInt8) : UInt8 := q ^^^ shl8 q 1
def q2 (q : UInt8) : UInt8 := q1 q ^^^ shl8 (q1 q) 2
def q3 (q : UInt8) : UInt8 := q2 q ^^^ shl8 (q2 q) 4
def q4 (q : UInt8) : UInt8 := if (q3 q &&& 128 != 0) = true then q3 q ^^^ 9 else q3 q
def sv (q : UInt8) : UInt8 := q ^^^ (shl8 q 1 ||| shr8 q 7) ^^^ (shl8 q 2 ||| shr8 q 6) ^^^ (shl8 q 3 ||| shr8 q 5) ^^^ (shl8 q 4 ||| shr8 q 4) ^^^ 99
def pP : Nat → UInt8
  | 0 => 1
  | k + 1 => pP k ^^^ dbl (pP k)
def pQ : Nat → UInt8
  | 0 => 1
  | k + 1 => q4 (pQ k)
def mS : Nat → List UInt8
  | 0 => List.replicate 432 0
  | k + 1 => (mS k).set (pP (k + 1)).toNat (sv (pQ (k + 1)))
theorem mS_len : ∀ k, (mS k).length = 432
  | 0 => List.length_replicate
  | k + 1 => by simp [mS, mS_len k]
theorem pP_ends : ((List.range 255).all fun k => (pP (k + 1) == 1) == decide (k = 254)) = true := by decide +kernel
theorem pP_end {k : Nat} (h : k < 255) : (pP (k + 1) == 1) = decide (k = 254) := by
  have := List.all_eq_true.1 pP_ends k (List.mem_range.2 h)
  simpa using this
/-! ### the keys -/
def sB (i : Nat) : UInt8 := subB (UInt8.ofNat i)
def mk : Nat → UInt8
  | 0 => 141
  | k + 1 => dbl (mk k)
def nx (l : List UInt8) (n : Nat) : UInt8 := l.getD (n - 16) 0 ^^^ (if n % 16 < 4 then sB (l.getD (n - n % 16 - 4 + (n % 16 + 1) % 4) 0).toNat ^^^ (if n % 16 = 0 then mk (n / 16) else 0) else l.getD (n - 4) 0)
def kl (key : List UInt8) : Nat → List UInt8
  | 0 => key
  | j + 1 => kl key j ++ [nx (kl key j) (16 + j)]
def kK (key : List UInt8) (n : Nat) : UInt8 := (kl key 160).getD n 0
theorem kl_len {key : List UInt8} (h : key.length = 16) : ∀ j, (kl key j).length = 16 + j
  | 0 => h
  | j + 1 => by simp [kl, kl_len h j]; omega
theorem getD_app8 {x y : List UInt8} {i : Nat} (h : i < x.length) : (x ++ y).getD i 0 = x.getD i 0 := by
  simp [List.getD_eq_getElem?_getD, List.getElem?_append_left h]
theorem kl_getD {key : List UInt8} (h : key.length = 16) (j : Nat) : ∀ d m, m < 16 + j → (kl key (j + d)).getD m 0 = (kl key j).getD m 0
  | 0, _, _ => rfl
  | d + 1, m, hm => by
    rw [← Nat.add_assoc, kl, getD_app8 (by rw [kl_len h]; omega)]
    exact kl_getD h j d m hm
theorem kK_at {key : List UInt8} (h : key.length = 16) {j m : Nat} (hj : j ≤ 160) (hm : m < 16 + j) : (kl key j).getD m 0 = kK key m := by
  have := kl_getD h j (160 - j) m hm
  rw [show j + (160 - j) = 160 by omega] at this
  exact this.symm
theorem kK_key {key : List UInt8} (h : key.length = 16) {m : Nat} (hm : m < 16) : kK key m = key.getD m 0 := (kK_at h (j := 0) (by omega) (by omega)).symm
theorem kK_nx {key : List UInt8} (h : key.length = 16) {n : Nat} (h1 : 16 ≤ n) (h2 : n < 176) :
    kK key n = kK key (n - 16) ^^^ (if n % 16 < 4 then sB (kK key (n - n % 16 - 4 + (n % 16 + 1) % 4)).toNat ^^^ (if n % 16 = 0 then mk (n / 16) else 0) else kK key (n - 4)) := by
  obtain ⟨j, rfl⟩ : ∃ j, n = 16 + j := ⟨n - 16, by omega⟩
  have hl := kl_len h j
  have e : (kl key (j + 1)).getD (16 + j) 0 = nx (kl key j) (16 + j) := by
    rw [kl, List.getD_eq_getElem?_getD, List.getElem?_append_right (by omega), hl]; simp
  rw [← kK_at h (j := j + 1) (by omega) (by omega), e, nx, kK_at h (by omega) (by omega), kK_at h (j := j) (by omega) (by omega)]
  by_cases hc : (16 + j) % 16 < 4
  · rw [if_pos hc, if_pos hc]
  · rw [if_neg hc, if_neg hc, kK_at h (j := j) (by omega) (by omega)]
/-- the cipher's memory: S and what is known of the keys -/
def fm (f : Nat → UInt8) : List UInt8 := tab 432 fun m => if m < 256 then sB m else f (m - 256)
theorem fm_len (f : Nat → UInt8) : (fm f).length = 432 := tab_len
def seen (k m : Nat) : Bool := (List.range k).any fun j => (pP (j + 1)).toNat == m
theorem sv_all : ((List.range 255).all fun k => sv (pQ (k + 1)) == sB (pP (k + 1)).toNat) = true := by decide +kernel
theorem seen_all : ((List.range 255).all fun m => seen 255 (m + 1)) = true := by decide +kernel
theorem sB_0 : sB 0 = 99 := by decide +kernel
theorem getD_set8 {l : List UInt8} {i m : Nat} {v : UInt8} (hi : i < l.length) : (l.set i v).getD m 0 = if i = m then v else l.getD m 0 := by
  simp only [List.getD_eq_getElem?_getD, List.getElem?_set]
  by_cases h : i = m
  · rw [if_pos h, if_pos h, if_pos hi]; rfl
  · rw [if_neg h, if_neg h]
theorem mS_get : ∀ k, k ≤ 255 → ∀ m, (mS k).getD m 0 = if seen k m = true then sB m else 0
  | 0, _, m => by
    rw [if_neg (by simp [seen]), mS, List.getD_eq_getElem?_getD, List.getElem?_replicate]; split <;> rfl
  | k + 1, hk, m => by
    have hp := (pP (k + 1)).toNat_lt
    rw [mS, getD_set8 (by rw [mS_len]; omega), mS_get k (by omega) m]
    have hsv : sv (pQ (k + 1)) = sB (pP (k + 1)).toNat := by
      have := List.all_eq_true.1 sv_all k (List.mem_range.2 (by omega))
      exact eq_of_beq this
    have hs : seen (k + 1) m = (seen k m || (pP (k + 1)).toNat == m) := by simp [seen, List.range_succ]
    rw [hs]
    by_cases h : (pP (k + 1)).toNat = m
    · rw [if_pos h, hsv, if_pos (by simp [h]), h]
    · rw [if_neg h]
      have : ((pP (k + 1)).toNat == m) = false := by simpa using h
      rw [this, Bool.or_false]
theorem mS_fm : (mS 255).set 0 99 = fm fun _ => 0 := by
  have hl := mS_len 255
  apply List.ext_getElem (by simp [hl, fm, tab_len])
  intro i h1 h2
  have e : ∀ (l : List UInt8) (h : i < l.length), l[i] = l.getD i 0 := fun l h => by simp [List.getD_eq_getElem?_getD, h]
  rw [e, e, getD_set8 (by omega)]
  have hi : i < 432 := by simpa [hl] using h1
  rw [fm, tab_getD hi, mS_get 255 (Nat.le_refl _)]
  by_cases h0 : 0 = i
  · subst h0; rw [if_pos rfl, if_pos (by decide), sB_0]
  · rw [if_neg h0]
    by_cases h3 : i < 256
    · rw [if_pos h3, if_pos]
      have := List.all_eq_true.1 seen_all (i - 1) (List.mem_range.2 (by omega))
      rwa [show i - 1 + 1 = i by omega] at this
    · rw [if_neg h3, if_neg]
      simp only [seen, List.any_eq_true, List.mem_range, beq_iff_eq, not_exists, not_and]
      intro j _ hj
      have := (pP (j + 1)).toNat_lt
      omega
theorem fm_key (f : Nat → UInt8) {n : Nat} (h : n < 176) : (fm f).getD (256 + n) 0 = f n := by
  rw [fm, tab_getD (by omega), if_neg (by omega), show 256 + n - 256 = n by omega]
theorem fm_s (f : Nat → UInt8) {n : Nat} (h : n < 256) : (fm f).getD n 0 = sB n := by
  rw [fm, tab_getD (by omega), if_pos h]
theorem fm_set (f : Nat → UInt8) (n : Nat) (v : UInt8) : (fm f).set (256 + n) v = fm fun m => if m = n then v else f m := by
  rw [fm, tab_set, fm]; refine tab_congr fun i _ => ?_
  by_cases h : i = 256 + n
  · rw [if_pos h, if_neg (by omega), if_pos (by omega)]
  · rw [if_neg h]
    by_cases h2 : i < 256
    · rw [if_pos h2, if_pos h2]
    · rw [if_neg h2, if_neg h2, if_neg (by omega)]
theorem fm_congr {f g : Nat → UInt8} (h : ∀ n, n < 176 → f n = g n) : fm f = fm g := tab_congr fun i hi => by
  by_cases h2 : i < 256
  · rw [if_pos h2, if_pos h2]
  · rw [if_neg h2, if_neg h2, h _ (by omega)]
def f0 (key : List UInt8) (n : Nat) : UInt8 := if n < 16 then kK key n else 0
def fA (key : List UInt8) (r i n : Nat) : UInt8 := if n < 16 * r then kK key n else if n < 16 * r + i then (if n = 16 * r then kK key n ^^^ mk r else kK key n) else 0
def fB (key : List UInt8) (r i n : Nat) : UInt8 := if n < 16 * r + i then kK key n else 0
theorem fm_store (key : List UInt8) (h : key.length = 16) : (fm fun _ => 0).take 256 ++ key ++ (fm fun _ => 0).drop (256 + key.length) = fm (f0 key) := by
  rw [fm, tab_write (d := 0) (by omega), fm]
  refine tab_congr fun i hi => ?_
  by_cases h1 : 256 ≤ i ∧ i < 256 + key.length
  · rw [if_pos h1, if_neg (by omega), f0, if_pos (by omega), kK_key h (by omega)]
  · rw [if_neg h1]
    by_cases h2 : i < 256
    · rw [if_pos h2, if_pos h2]
    · rw [if_neg h2, if_neg h2, f0, if_neg (by omega)]
theorem fm_A0 (key : List UInt8) (r : Nat) : fm (fB key r 0) = fm (fA key r 0) := fm_congr fun n _ => by
  simp only [fA, fB, Nat.add_zero]
  by_cases h : n < 16 * r
  · rw [if_pos h, if_pos h]
  · rw [if_neg h, if_neg h, if_neg h]
theorem fm_As (key : List UInt8) (hk : key.length = 16) (r i : Nat) (h1 : 1 ≤ r) (h2 : r ≤ 10) (hi : i < 4) :
    (fm (fA key r i)).set (256 + (16 * r + i)) ((fm (fA key r i)).getD (256 + (16 * (r - 1) + i)) 0 ^^^ (fm (fA key r i)).getD ((fm (fA key r i)).getD (256 + (16 * (r - 1) + (12 + (i + 1) % 4))) 0).toNat 0) = fm (fA key r (i + 1)) := by
  have hn : kK key (16 * r + i) = kK key (16 * (r - 1) + i) ^^^ (sB (kK key (16 * (r - 1) + (12 + (i + 1) % 4))).toNat ^^^ (if i = 0 then mk r else 0)) := by
    rw [kK_nx hk (by omega) (by omega), if_pos (by omega)]
    rw [show 16 * r + i - 16 = 16 * (r - 1) + i by omega, show 16 * r + i - (16 * r + i) % 16 - 4 + ((16 * r + i) % 16 + 1) % 4 = 16 * (r - 1) + (12 + (i + 1) % 4) by omega, show (16 * r + i) / 16 = r by omega]
    by_cases h0 : i = 0
    · rw [if_pos (by omega), if_pos h0]
    · rw [if_neg (by omega), if_neg h0]
  have hb := (kK key (16 * (r - 1) + (12 + (i + 1) % 4))).toNat_lt
  rw [fm_set, fm_key _ (by omega), fm_key _ (by omega)]
  have e1 : fA key r i (16 * (r - 1) + i) = kK key (16 * (r - 1) + i) := if_pos (by omega)
  have e2 : fA key r i (16 * (r - 1) + (12 + (i + 1) % 4)) = kK key (16 * (r - 1) + (12 + (i + 1) % 4)) := if_pos (by omega)
  rw [e1, e2, fm_s _ (by omega)]
  refine fm_congr fun n _ => ?_
  by_cases h : n = 16 * r + i
  · rw [if_pos h, fA, if_neg (by omega), if_pos (by omega), h]
    by_cases h0 : i = 0
    · subst h0
      rw [if_pos (by omega), hn, if_pos rfl, UInt8.xor_assoc, UInt8.xor_assoc, UInt8.xor_self, UInt8.xor_zero]
    · rw [if_neg (by omega), hn, if_neg h0, UInt8.xor_zero]
  · rw [if_neg h]
    simp only [fA]
    by_cases h2 : n < 16 * r
    · rw [if_pos h2, if_pos h2]
    · rw [if_neg h2, if_neg h2]
      by_cases h3 : n < 16 * r + i
      · rw [if_pos h3, if_pos (show n < 16 * r + (i + 1) by omega)]
      · rw [if_neg h3, if_neg (show ¬ n < 16 * r + (i + 1) by omega)]
theorem fm_mk (key : List UInt8) (r : Nat) (h2 : r ≤ 10) : (fm (fA key r 4)).set (256 + 16 * r) ((fm (fA key r 4)).getD (256 + 16 * r) 0 ^^^ mk r) = fm (fB key r 4) := by
  rw [fm_set, fm_key _ (by omega)]
  refine fm_congr fun n _ => ?_
  by_cases h : n = 16 * r
  · rw [if_pos h, h, fA, if_neg (by omega), if_pos (by omega), if_pos rfl, fB, if_pos (by omega), UInt8.xor_assoc, UInt8.xor_self, UInt8.xor_zero]
  · rw [if_neg h]
    simp only [fA, fB]
    by_cases h2 : n < 16 * r
    · rw [if_pos h2, if_pos (by omega)]
    · rw [if_neg h2]
      by_cases h3 : n < 16 * r + 4
      · rw [if_pos h3, if_pos h3, if_neg h]
      · rw [if_neg h3, if_neg h3]
theorem fm_Bs (key : List UInt8) (hk : key.length = 16) (r i : Nat) (h1 : 1 ≤ r) (h2 : r ≤ 10) (hi : 4 ≤ i) (hi2 : i < 16) :
    (fm (fB key r i)).set (256 + (16 * r + i)) ((fm (fB key r i)).getD (256 + (16 * (r - 1) + i)) 0 ^^^ (fm (fB key r i)).getD (256 + (16 * r + (i - 4))) 0) = fm (fB key r (i + 1)) := by
  have hn : kK key (16 * r + i) = kK key (16 * (r - 1) + i) ^^^ kK key (16 * r + (i - 4)) := by
    rw [kK_nx hk (by omega) (by omega), if_neg (by omega)]
    rw [show 16 * r + i - 16 = 16 * (r - 1) + i by omega, show 16 * r + i - 4 = 16 * r + (i - 4) by omega]
  rw [fm_set, fm_key _ (by omega), fm_key _ (by omega)]
  have e1 : fB key r i (16 * (r - 1) + i) = kK key (16 * (r - 1) + i) := if_pos (by omega)
  have e2 : fB key r i (16 * r + (i - 4)) = kK key (16 * r + (i - 4)) := if_pos (by omega)
  rw [e1, e2]
  refine fm_congr fun n _ => ?_
  by_cases h : n = 16 * r + i
  · rw [if_pos h, fB, if_pos (by omega), h, hn]
  · rw [if_neg h]
    simp only [fB]
    by_cases h2 : n < 16 * r + i
    · rw [if_pos h2, if_pos (by omega)]
    · rw [if_neg h2, if_neg (by omega)]
theorem fm_B16 (key : List UInt8) (r : Nat) : fm (fB key r 16) = fm (fB key (r + 1) 0) := fm_congr fun n _ => by
  simp only [fB]; rw [show 16 * (r + 1) + 0 = 16 * r + 16 by omega]
theorem fm_f0 (key : List UInt8) : fm (f0 key) = fm (fB key 1 0) := fm_congr fun n _ => by simp [f0, fB]
/-- all that 'expand' lays -/
def mem (key : List UInt8) : List UInt8 := fm (kK key)
theorem fm_end (key : List UInt8) : fm (fB key 11 0) = mem key := fm_congr fun n hn => if_pos (by omega)
set_option maxHeartbeats 4000000 in
theorem expand_fn (key : List UInt8) (hk : key.length = 16) (L : List SA) :
    Fn Try.prog 12 [.agg (key.map v8).toArray] L (fun v L' => ∃ b, v = pt b 0 ∧ L' = SA.blk b ((mem key).map v8).toArray 44 :: L) := by
  refine Fn.of (N := 150) Try.func12 rfl rfl ?_
  refine TC.seq ?_
  refine TC.region ?_
  refine TL.eff rfl rfl rfl (X.boxA rfl rfl) ?_
  rintro _ _ ⟨b1, rfl, rfl⟩
  refine TL.val rfl rfl rfl (Y.assign rfl rfl) ?_
  refine TL.nil ?_
  refine TQ.next ?_
  refine TC.seq ?_
  refine TC.region ?_
  refine TL.val rfl rfl rfl (Y.buildS rfl rfl pl44 zc44 rfl) ?_
  refine TL.eff rfl rfl rfl (X.boxA rfl rfl) ?_
  rintro _ _ ⟨b13, rfl, rfl⟩
  refine TL.val rfl rfl rfl (Y.assign rfl rfl) ?_
  refine TL.nil ?_
  refine TQ.next ?_
  refine TC.seq ?_
  refine TC.region ?_
  refine TL.val rfl rfl rfl (Y.assign rfl rfl) ?_
  refine TL.val rfl rfl rfl (Y.assign rfl rfl) ?_
  refine TL.nil ?_
  refine TQ.next ?_
  refine TC.seq ?_
  refine TC.block ?_
  refine TC.loopF (ι := Nat) [] (fun k => k < 255) (fun k => [(4, some (v8 (pP k))), (5, some (v8 (pQ k)))]) (fun k => [SA.blk b13 ((mS k).map v8).toArray 44]) (fun k => 255 - k) (0) (by omega) ⟨rfl, rfl, trivial⟩ (Pulls.cons (by first | (with_reducible (repeat first | exact Pull.here | apply Pull.there); done) | (repeat first | exact Pull.here | apply Pull.there)) Pulls.nil) ?_
  rintro k hkk F' L' rfl hL'
  simp only [List.cons_append, List.nil_append] at hL'
  subst hL'
  have hl := mS_len k
  refine TC.block ?_
  refine TC.seq ?_
  refine TC.region ?_
  refine TL.val rfl rfl rfl (Y.move rfl rfl) ?_
  refine TL.val rfl rfl rfl (Y.move rfl rfl) ?_
  refine TL.eff rfl rfl rfl (X.call rfl Try.func17 (by kernel_rfl) rfl rfl (dbl_fn _ _)) ?_
  rintro _ _ ⟨rfl, rfl⟩
  refine TL.val rfl rfl rfl (Y.bin rfl rfl rfl (br_xor8)) ?_
  refine TL.val rfl rfl rfl (Y.assign rfl rfl) ?_
  refine TL.nil ?_
  refine TQ.next ?_
  refine TC.seq ?_
  refine TC.region ?_
  refine TL.val rfl rfl rfl (Y.move rfl rfl) ?_
  refine TL.val rfl rfl rfl (Y.move rfl rfl) ?_
  refine TL.val rfl rfl rfl (Y.bin rfl rfl rfl (br_shl8 (n := 1))) ?_
  refine TL.val rfl rfl rfl (Y.bin rfl rfl rfl (br_xor8)) ?_
  refine TL.val rfl rfl rfl (Y.assign rfl rfl) ?_
  refine TL.nil ?_
  refine TQ.next ?_
  refine TC.seq ?_
  refine TC.region ?_
  refine TL.val rfl rfl rfl (Y.move rfl rfl) ?_
  refine TL.val rfl rfl rfl (Y.move rfl rfl) ?_
  refine TL.val rfl rfl rfl (Y.bin rfl rfl rfl (br_shl8 (n := 2))) ?_
  refine TL.val rfl rfl rfl (Y.bin rfl rfl rfl (br_xor8)) ?_
  refine TL.val rfl rfl rfl (Y.assign rfl rfl) ?_
  refine TL.nil ?_
  refine TQ.next ?_
  refine TC.seq ?_
  refine TC.region ?_
  refine TL.val rfl rfl rfl (Y.move rfl rfl) ?_
  refine TL.val rfl rfl rfl (Y.move rfl rfl) ?_
  refine TL.val rfl rfl rfl (Y.bin rfl rfl rfl (br_shl8 (n := 4))) ?_
  refine TL.val rfl rfl rfl (Y.bin rfl rfl rfl (br_xor8)) ?_
  refine TL.val rfl rfl rfl (Y.assign rfl rfl) ?_
  refine TL.nil ?_
  refine TQ.next ?_
  refine TC.cutF (ι := Unit) [] (fun _ => True) (fun _ => [(5, some (v8 (pQ (k + 1))))]) (fun _ => []) (Ao := []) Pulls.nil ?_ ?_
  · rintro L' hL'
    simp only [List.cons_append, List.nil_append] at hL'
    subst hL'
    refine TC.seq ?_
    refine TC.region ?_
    refine TL.val rfl rfl rfl (Y.move rfl rfl) ?_
    refine TL.val rfl rfl rfl (Y.bin rfl rfl rfl (br_and8 (y := 128))) ?_
    refine TL.val rfl rfl rfl (Y.bin rfl rfl rfl (br_ne8 (y := 0))) ?_
    refine TL.nil ?_
    refine TQ.next ?_
    refine TC.cond rfl (fun c0 => ?_) (fun c0 => ?_)
    · skip
      refine TC.region ?_
      refine TL.val rfl rfl rfl (Y.move rfl rfl) ?_
      refine TL.val rfl rfl rfl (Y.bin rfl rfl rfl (br_xor8 (y := 9))) ?_
      refine TL.val rfl rfl rfl (Y.assign rfl rfl) ?_
      refine TL.nil ?_
      refine TQ.meetF (()) (trivial) (by first | exact ⟨by rw [show pQ (k + 1) = q3 (pQ k) ^^^ 9 from if_pos c0]; rfl, trivial⟩ | exact ⟨by rw [show pQ (k + 1) = q3 (pQ k) from if_neg (by rw [show (q3 (pQ k) &&& 128 != 0) = false from c0]; decide)]; rfl, trivial⟩) (by (repeat first | exact Grow.refl | apply Grow.step | apply Grow.app)) ?_ ?_
      · kernel_rfl
      · simp only [List.cons_append, List.nil_append]
        exact (by (repeat first | (with_reducible exact Ent.refl) | (with_reducible exact Ent.nil) | refine Ent.cons (by first | (with_reducible (repeat first | exact Pull.here | apply Pull.there); done) | (repeat first | exact Pull.here | apply Pull.there)) ?_ | refine Ent.skip ?_))
    · skip
      refine TC.skip ?_
      refine TQ.meetF (()) (trivial) (by first | exact ⟨by rw [show pQ (k + 1) = q3 (pQ k) ^^^ 9 from if_pos c0]; rfl, trivial⟩ | exact ⟨by rw [show pQ (k + 1) = q3 (pQ k) from if_neg (by rw [show (q3 (pQ k) &&& 128 != 0) = false from c0]; decide)]; rfl, trivial⟩) (by (repeat first | exact Grow.refl | apply Grow.step | apply Grow.app)) ?_ ?_
      · kernel_rfl
      · simp only [List.cons_append, List.nil_append]
        exact (by (repeat first | (with_reducible exact Ent.refl) | (with_reducible exact Ent.nil) | refine Ent.cons (by first | (with_reducible (repeat first | exact Pull.here | apply Pull.there); done) | (repeat first | exact Pull.here | apply Pull.there)) ?_ | refine Ent.skip ?_))
  · rintro ⟨⟩ - F' L' rfl hL'
    simp only [List.cons_append, List.nil_append] at hL'
    subst hL'
    have hp := (pP (k + 1)).toNat_lt
    rw [show pP k ^^^ dbl (pP k) = pP (k + 1) from rfl]
    refine TC.seq ?_
    refine TC.region ?_
    refine TL.val rfl rfl rfl (Y.move rfl rfl) ?_
    refine TL.val rfl rfl rfl (Y.move rfl rfl) ?_
    refine TL.val rfl rfl rfl (Y.move rfl rfl) ?_
    refine TL.val rfl rfl rfl (Y.move rfl rfl) ?_
    refine TL.val rfl rfl rfl (Y.bin rfl rfl rfl (br_shl8 (n := 1))) ?_
    refine TL.val rfl rfl rfl (Y.move rfl rfl) ?_
    refine TL.val rfl rfl rfl (Y.bin rfl rfl rfl (br_shr8 (n := 7))) ?_
    refine TL.val rfl rfl rfl (Y.bin rfl rfl rfl (br_or8)) ?_
    refine TL.val rfl rfl rfl (Y.bin rfl rfl rfl (br_xor8)) ?_
    refine TL.val rfl rfl rfl (Y.move rfl rfl) ?_
    refine TL.val rfl rfl rfl (Y.bin rfl rfl rfl (br_shl8 (n := 2))) ?_
    refine TL.val rfl rfl rfl (Y.move rfl rfl) ?_
    refine TL.val rfl rfl rfl (Y.bin rfl rfl rfl (br_shr8 (n := 6))) ?_
    refine TL.val rfl rfl rfl (Y.bin rfl rfl rfl (br_or8)) ?_
    refine TL.val rfl rfl rfl (Y.bin rfl rfl rfl (br_xor8)) ?_
    refine TL.val rfl rfl rfl (Y.move rfl rfl) ?_
    refine TL.val rfl rfl rfl (Y.bin rfl rfl rfl (br_shl8 (n := 3))) ?_
    refine TL.val rfl rfl rfl (Y.move rfl rfl) ?_
    refine TL.val rfl rfl rfl (Y.bin rfl rfl rfl (br_shr8 (n := 5))) ?_
    refine TL.val rfl rfl rfl (Y.bin rfl rfl rfl (br_or8)) ?_
    refine TL.val rfl rfl rfl (Y.bin rfl rfl rfl (br_xor8)) ?_
    refine TL.val rfl rfl rfl (Y.move rfl rfl) ?_
    refine TL.val rfl rfl rfl (Y.bin rfl rfl rfl (br_shl8 (n := 4))) ?_
    refine TL.val rfl rfl rfl (Y.move rfl rfl) ?_
    refine TL.val rfl rfl rfl (Y.bin rfl rfl rfl (br_shr8 (n := 4))) ?_
    refine TL.val rfl rfl rfl (Y.bin rfl rfl rfl (br_or8)) ?_
    refine TL.val rfl rfl rfl (Y.bin rfl rfl rfl (br_xor8)) ?_
    refine TL.val rfl rfl rfl (Y.bin rfl rfl rfl (br_xor8 (y := 99))) ?_
    refine TL.val rfl rfl rfl (Y.nilCheck rfl rfl) ?_
    refine TL.val rfl rfl rfl (Y.fieldAddr rfl fo44_0 rfl (by ((try simp only [Nat.zero_add, Nat.add_zero, Nat.mul_one, Nat.one_mul, Nat.mul_zero, Nat.zero_mul]) <;> rfl))) ?_
    refine TL.val rfl rfl rfl (Y.indexArr rfl ar34 rfl rfl (by omega) (by ((try simp only [Nat.zero_add, Nat.add_zero, Nat.mul_one, Nat.one_mul, Nat.mul_zero, Nat.zero_mul]) <;> rfl))) ?_
    refine TL.eff0 rfl rfl (by first | exact X.store rfl sz5 rfl rfl rfl (by first | (with_reducible (repeat first | exact Pull.here | apply Pull.there); done) | (repeat first | exact Pull.here | apply Pull.there)) (by ((try simp only [List.length_set, List.length_map, List.length_append, List.length_replicate, List.size_toArray]); omega)) (by first | exact setM | rfl) | exact X.storeOwn rfl sz5 rfl (Nat.zero_add _).symm rfl rfl (by first | (with_reducible (repeat first | exact Pull.here | apply Pull.there); done) | (repeat first | exact Pull.here | apply Pull.there)) (by ((try simp only [List.length_set, List.length_map, List.length_append, List.length_replicate, List.size_toArray]); omega)) (by first | exact setML | rfl)) ?_
    rintro _ _ rfl
    refine TL.nil ?_
    rw [show (mS k).set (pP (k + 1)).toNat (pQ (k + 1) ^^^ (shl8 (pQ (k + 1)) 1 ||| shr8 (pQ (k + 1)) 7) ^^^ (shl8 (pQ (k + 1)) 2 ||| shr8 (pQ (k + 1)) 6) ^^^ (shl8 (pQ (k + 1)) 3 ||| shr8 (pQ (k + 1)) 5) ^^^ (shl8 (pQ (k + 1)) 4 ||| shr8 (pQ (k + 1)) 4) ^^^ 99) = mS (k + 1) from rfl]
    refine TQ.next ?_
    refine TC.seq ?_
    refine TC.region ?_
    refine TL.val rfl rfl rfl (Y.move rfl rfl) ?_
    refine TL.val rfl rfl rfl (Y.bin rfl rfl rfl (br_eq8 (y := 1))) ?_
    refine TL.nil ?_
    rw [pP_end hkk]
    refine TQ.next ?_
    refine TC.cond rfl (fun c1 => ?_) (fun c1 => ?_)
    · try simp only [decide_eq_true_eq, decide_eq_false_iff_not, Bool.not_eq_true', Bool.not_eq_false', Bool.and_eq_true, Bool.or_eq_true, Nat.not_lt, Nat.not_le, beq_iff_eq, bne_iff_ne] at c1
      refine TC.exit ?_
      refine TQ.block_out rfl ?_
      refine TQ.then_exit ?_
      refine TQ.block_exit ?_
      refine TQ.next ?_
      refine TC.seq ?_
      obtain rfl : k = 254 := by omega
      have hl2 : (mS (254 + 1)).length = 432 := mS_len _
      refine TC.region ?_
      refine TL.val rfl rfl rfl (Y.move rfl rfl) ?_
      refine TL.val rfl rfl rfl (Y.nilCheck rfl rfl) ?_
      refine TL.val rfl rfl rfl (Y.fieldAddr rfl fo44_0 rfl (by ((try simp only [Nat.zero_add, Nat.add_zero, Nat.mul_one, Nat.one_mul, Nat.mul_zero, Nat.zero_mul]) <;> rfl))) ?_
      refine TL.val rfl rfl rfl (Y.indexArr (j := 0) rfl ar34 rfl rfl (by omega) (by ((try simp only [Nat.zero_add, Nat.add_zero, Nat.mul_one, Nat.one_mul, Nat.mul_zero, Nat.zero_mul]) <;> rfl))) ?_
      refine TL.eff0 rfl rfl (by first | exact X.store rfl sz5 rfl rfl rfl (by first | (with_reducible (repeat first | exact Pull.here | apply Pull.there); done) | (repeat first | exact Pull.here | apply Pull.there)) (by ((try simp only [List.length_set, List.length_map, List.length_append, List.length_replicate, List.size_toArray]); omega)) (by first | exact setM (x := 99) | rfl) | exact X.storeOwn rfl sz5 rfl (Nat.zero_add _).symm rfl rfl (by first | (with_reducible (repeat first | exact Pull.here | apply Pull.there); done) | (repeat first | exact Pull.here | apply Pull.there)) (by ((try simp only [List.length_set, List.length_map, List.length_append, List.length_replicate, List.size_toArray]); omega)) (by first | exact setML (x := 99) | rfl)) ?_
      rintro _ _ rfl
      refine TL.nil ?_
      refine TQ.next ?_
      refine TC.seq ?_
      rw [show (mS (254 + 1)).set 0 99 = fm fun _ => 0 from mS_fm]
      have hl3 := fm_len fun _ => 0
      refine TC.draws 5 _ (by kernel_rfl) (fun _ h => h) ?_
      refine TA.take 0 rfl rfl rfl rfl (by kernel_rfl) (by kernel_rfl) (by kernel_rfl) rfl (by kernel_rfl) (by kernel_rfl) (fun _ _ _ h => h) (Y.move rfl rfl) ?_
      refine TA.take 1 rfl rfl rfl rfl (by kernel_rfl) (by kernel_rfl) (by kernel_rfl) rfl (by kernel_rfl) (by kernel_rfl) (fun _ _ _ h => h) (Y.loadAgg rfl ag22 rfl (Cels.full (by with_reducible (repeat first | exact In.here | apply In.there))) (by ((try simp only [List.length_map, List.length_set, List.length_replicate]); omega))) ?_
      refine TA.takeP 2 rfl rfl rfl rfl (by kernel_rfl) (by kernel_rfl) (by kernel_rfl) rfl (fun _ _ _ h => h) (Y.nilCheck rfl rfl) ?_
      refine TA.takeP 3 rfl rfl rfl rfl (by kernel_rfl) (by kernel_rfl) (by kernel_rfl) rfl (fun _ _ _ h => h) (Y.fieldAddr rfl fo44_1 rfl (by ((try simp only [Nat.zero_add, Nat.add_zero, Nat.mul_one, Nat.one_mul, Nat.mul_zero, Nat.zero_mul]) <;> rfl))) ?_
      refine TA.take 4 rfl rfl rfl rfl (by kernel_rfl) (by kernel_rfl) (by kernel_rfl) rfl (by kernel_rfl) (by kernel_rfl) (fun _ _ _ h => h) (Y.indexArr (j := 0) rfl ar42 rfl rfl (by omega) (by ((try simp only [Nat.zero_add, Nat.add_zero, Nat.mul_one, Nat.one_mul, Nat.mul_zero, Nat.zero_mul]) <;> rfl))) ?_
      refine TA.one0 5 (by kernel_rfl) rfl rfl rfl (by first | exact X.storeAll rfl sz22 (by ((try simp only [List.size_toArray, List.length_set, List.length_map, List.length_append, List.length_replicate, List.length_cons, List.length_nil]); (first | done | omega | (simp [*]; done)))) rfl rfl (by simp [Value.oneCell']) (by first | (with_reducible (repeat first | exact Pull.here | apply Pull.there); done) | (repeat first | exact Pull.here | apply Pull.there)) (by ((try simp only [List.size_toArray, List.length_set, List.length_map, List.length_append, List.length_replicate, List.length_cons, List.length_nil]); (first | done | omega | (simp [*]; done)))) | exact X.storeAgg rfl sz22 (by ((try simp only [List.size_toArray, List.length_set, List.length_map, List.length_append, List.length_replicate, List.length_cons, List.length_nil]); (first | done | omega | (simp [*]; done)))) rfl rfl (by simp [Value.oneCell']) (by first | (with_reducible (repeat first | exact Pull.here | apply Pull.there); done) | (repeat first | exact Pull.here | apply Pull.there)) (by ((try simp only [List.size_toArray, List.length_set, List.length_map, List.length_append, List.length_replicate, List.length_cons, List.length_nil]); (first | done | omega | (simp [*]; done)))) (writeM (by ((try simp only [List.length_set, List.length_map, List.length_append, List.length_replicate]); omega)))) ?_
      rintro _ _ rfl
      refine ⟨(Or.inl (by kernel_rfl)), ?_⟩
      refine TA.done (by kernel_rfl) ?_
      rw [fm_store key hk, fm_f0]
      refine TQ.next ?_
      refine TC.seq ?_
      refine TC.region ?_
      refine TL.val rfl rfl rfl (Y.assign rfl rfl) ?_
      refine TL.nil ?_
      refine TQ.next ?_
      refine TC.seq ?_
      refine TC.seq ?_
      refine TC.region ?_
      refine TL.val rfl rfl rfl (Y.assign rfl rfl) ?_
      refine TL.nil ?_
      refine TQ.next ?_
      refine TC.block ?_
      refine TC.loopF (ι := Nat) [] (fun r => 1 ≤ r ∧ r ≤ 11) (fun r => [(7, some (vN r)), (6, some (v8 (mk r)))]) (fun r => [SA.blk b13 ((fm (fB key r 0)).map v8).toArray 44]) (fun r => 11 - r) (1) (⟨by omega, by omega⟩) ⟨rfl, rfl, trivial⟩ (Pulls.cons (by first | (with_reducible (repeat first | exact Pull.here | apply Pull.there); done) | (repeat first | exact Pull.here | apply Pull.there)) Pulls.nil) ?_
      rintro r ⟨hr1, hr2⟩ F' L' rfl hL'
      simp only [List.cons_append, List.nil_append] at hL'
      subst hL'
      refine TC.seq ?_
      refine TC.seq ?_
      refine TC.region ?_
      refine TL.val rfl rfl rfl (Y.move rfl rfl) ?_
      refine TL.val rfl rfl rfl (Y.bin rfl rfl rfl (br_leN (n := 10))) ?_
      refine TL.nil ?_
      refine TQ.next ?_
      refine TC.cond rfl (fun c2 => ?_) (fun c2 => ?_)
      · try simp only [decide_eq_true_eq, decide_eq_false_iff_not, Bool.not_eq_true', Bool.not_eq_false', Bool.and_eq_true, Bool.or_eq_true, Nat.not_lt, Nat.not_le, beq_iff_eq, bne_iff_ne] at c2
        refine TC.skip ?_
        refine TQ.next ?_
        refine TC.seq ?_
        refine TC.block ?_
        refine TC.seq ?_
        refine TC.draws 13 _ (by kernel_rfl) (fun _ h => h) ?_
        refine TA.take 0 rfl rfl rfl rfl (by kernel_rfl) (by kernel_rfl) (by kernel_rfl) rfl (by kernel_rfl) (by kernel_rfl) (fun _ _ _ h => h) (Y.move rfl rfl) ?_
        refine TA.take 1 rfl rfl rfl rfl (by kernel_rfl) (by kernel_rfl) (by kernel_rfl) rfl (by kernel_rfl) (by kernel_rfl) (fun _ _ _ h => h) (Y.move rfl rfl) ?_
        refine TA.take 2 rfl rfl rfl rfl (by kernel_rfl) (by kernel_rfl) (by kernel_rfl) rfl (by kernel_rfl) (by kernel_rfl) (fun _ _ _ h => h) (Y.bin rfl rfl rfl (br_subN (n := 1) (by omega) (by omega))) ?_
        refine TA.take 3 rfl rfl rfl rfl (by kernel_rfl) (by kernel_rfl) (by kernel_rfl) rfl (by kernel_rfl) (by kernel_rfl) (fun _ _ _ h => h) (Y.nilCheck rfl rfl) ?_
        refine TA.take 4 rfl rfl rfl rfl (by kernel_rfl) (by kernel_rfl) (by kernel_rfl) rfl (by kernel_rfl) (by kernel_rfl) (fun _ _ _ h => h) (Y.fieldAddr rfl fo44_1 rfl (by ((try simp only [Nat.zero_add, Nat.add_zero, Nat.mul_one, Nat.one_mul, Nat.mul_zero, Nat.zero_mul]) <;> rfl))) ?_
        refine TA.take 5 rfl rfl rfl rfl (by kernel_rfl) (by kernel_rfl) (by kernel_rfl) rfl (by kernel_rfl) (by kernel_rfl) (fun _ _ _ h => h) (Y.indexArr rfl ar42 rfl rfl (by omega) (by ((try simp only [Nat.zero_add, Nat.add_zero, Nat.mul_one, Nat.one_mul, Nat.mul_zero, Nat.zero_mul]) <;> rfl))) ?_
        refine TA.take 6 rfl rfl rfl rfl (by kernel_rfl) (by kernel_rfl) (by kernel_rfl) rfl (by kernel_rfl) (by kernel_rfl) (fun _ _ _ h => h) (Y.move rfl rfl) ?_
        refine TA.take 7 rfl rfl rfl rfl (by kernel_rfl) (by kernel_rfl) (by kernel_rfl) rfl (by kernel_rfl) (by kernel_rfl) (fun _ _ _ h => h) (Y.move rfl rfl) ?_
        refine TA.take 8 rfl rfl rfl rfl (by kernel_rfl) (by kernel_rfl) (by kernel_rfl) rfl (by kernel_rfl) (by kernel_rfl) (fun _ _ _ h => h) (Y.nilCheck rfl rfl) ?_
        refine TA.take 9 rfl rfl rfl rfl (by kernel_rfl) (by kernel_rfl) (by kernel_rfl) rfl (by kernel_rfl) (by kernel_rfl) (fun _ _ _ h => h) (Y.fieldAddr rfl fo44_1 rfl (by ((try simp only [Nat.zero_add, Nat.add_zero, Nat.mul_one, Nat.one_mul, Nat.mul_zero, Nat.zero_mul]) <;> rfl))) ?_
        refine TA.take 10 rfl rfl rfl rfl (by kernel_rfl) (by kernel_rfl) (by kernel_rfl) rfl (by kernel_rfl) (by kernel_rfl) (fun _ _ _ h => h) (Y.indexArr rfl ar42 rfl rfl (by omega) (by ((try simp only [Nat.zero_add, Nat.add_zero, Nat.mul_one, Nat.one_mul, Nat.mul_zero, Nat.zero_mul]) <;> rfl))) ?_
        refine TA.take 11 rfl rfl rfl rfl (by kernel_rfl) (by kernel_rfl) (by kernel_rfl) rfl (by kernel_rfl) (by kernel_rfl) (fun _ _ _ h => h) (Y.assign rfl rfl) ?_
        refine TA.take 12 rfl rfl rfl rfl (by kernel_rfl) (by kernel_rfl) (by kernel_rfl) rfl (by kernel_rfl) (by kernel_rfl) (fun _ _ _ h => h) (Y.assign rfl rfl) ?_
        refine TA.done (by kernel_rfl) ?_
        refine TQ.next ?_
        refine TC.seq ?_
        refine TC.seq ?_
        refine TC.region ?_
        refine TL.val rfl rfl rfl (Y.move rfl rfl) ?_
        refine TL.nil ?_
        refine TQ.next ?_
        refine TC.block ?_
        refine TC.loopF (ι := Nat) [] (fun i => i ≤ 4) (fun i => [(92, some (vN i))]) (fun i => [SA.blk b13 ((fm (fA key r i)).map v8).toArray 44]) (fun i => 4 - i) (0) (by omega) ⟨rfl, trivial⟩ (by rw [← fm_A0]; exact Pulls.cons (by first | (with_reducible (repeat first | exact Pull.here | apply Pull.there); done) | (repeat first | exact Pull.here | apply Pull.there)) Pulls.nil) ?_
        rintro i hi F' L' rfl hL'
        simp only [List.cons_append, List.nil_append] at hL'
        subst hL'
        have hl4 := fm_len (fA key r i)
        have hx := ((fm (fA key r i)).getD (256 + (r - 1) * 16 + (12 + (i + 1) % 4)) 0).toNat_lt
        refine TC.seq ?_
        refine TC.region ?_
        refine TL.val rfl rfl rfl (Y.bin rfl rfl rfl (br_ltN (n := 4))) ?_
        refine TL.nil ?_
        refine TQ.next ?_
        refine TC.seq ?_
        refine TC.cond rfl (fun c3 => ?_) (fun c3 => ?_)
        · try simp only [decide_eq_true_eq, decide_eq_false_iff_not, Bool.not_eq_true', Bool.not_eq_false', Bool.and_eq_true, Bool.or_eq_true, Nat.not_lt, Nat.not_le, beq_iff_eq, bne_iff_ne] at c3
          refine TC.skip ?_
          refine TQ.next ?_
          refine TC.seq ?_
          refine TC.block ?_
          refine TC.seq ?_
          refine TC.region ?_
          refine TL.val rfl rfl rfl (Y.move rfl rfl) ?_
          refine TL.val rfl rfl rfl (Y.assign rfl rfl) ?_
          refine TL.nil ?_
          refine TQ.next ?_
          refine TC.draws 23 _ (by kernel_rfl) (fun _ h => h) ?_
          refine TA.take 0 rfl rfl rfl rfl (by kernel_rfl) (by kernel_rfl) (by kernel_rfl) rfl (by kernel_rfl) (by kernel_rfl) (fun _ _ _ h => h) (Y.move rfl rfl) ?_
          refine TA.take 1 rfl rfl rfl rfl (by kernel_rfl) (by kernel_rfl) (by kernel_rfl) rfl (by kernel_rfl) (by kernel_rfl) (fun _ _ _ h => h) (Y.move rfl rfl) ?_
          refine TA.take 2 rfl rfl rfl rfl (by kernel_rfl) (by kernel_rfl) (by kernel_rfl) rfl (by kernel_rfl) (by kernel_rfl) (fun _ _ _ h => h) (Y.move rfl rfl) ?_
          refine TA.take 3 rfl rfl rfl rfl (by kernel_rfl) (by kernel_rfl) (by kernel_rfl) rfl (by kernel_rfl) (by kernel_rfl) (fun _ _ _ h => h) (Y.move rfl rfl) ?_
          refine TA.take 4 rfl rfl rfl rfl (by kernel_rfl) (by kernel_rfl) (by kernel_rfl) rfl (by kernel_rfl) (by kernel_rfl) (fun _ _ _ h => h) (Y.nilCheck rfl rfl) ?_
          refine TA.take 5 rfl rfl rfl rfl (by kernel_rfl) (by kernel_rfl) (by kernel_rfl) rfl (by kernel_rfl) (by kernel_rfl) (fun _ _ _ h => h) (Y.indexArr rfl ar22 rfl rfl (by omega) (by ((try simp only [Nat.zero_add, Nat.add_zero, Nat.mul_one, Nat.one_mul, Nat.mul_zero, Nat.zero_mul]) <;> rfl))) ?_
          refine TA.take 6 rfl rfl rfl rfl (by kernel_rfl) (by kernel_rfl) (by kernel_rfl) rfl (by kernel_rfl) (by kernel_rfl) (fun _ _ _ h => h) (Y.load rfl sc5 rfl (by first | exact Cel.blk (by with_reducible (repeat first | exact In.here | apply In.there)) (by first | exact getM (d := (0 : UInt8)) (by ((try simp only [List.length_set, List.length_map, List.length_append, List.length_replicate, List.size_toArray]); omega)) | rfl) | exact Cel.rblk (by with_reducible (repeat first | exact In.here | apply In.there)) (by first | exact getM (d := (0 : UInt8)) (by ((try simp only [List.length_set, List.length_map, List.length_append, List.length_replicate, List.size_toArray]); omega)) | rfl) | exact Cel.rds (by with_reducible (repeat first | exact In.here | apply In.there)) (getML (d := (0 : UInt8)) (by ((try simp only [List.length_set, List.length_map, List.length_append, List.length_replicate, List.size_toArray]); omega))) | exact Cel.owns (by with_reducible (repeat first | exact In.here | apply In.there)) (getML (d := (0 : UInt8)) (by ((try simp only [List.length_set, List.length_map, List.length_append, List.length_replicate, List.size_toArray]); omega))) | exact Cel.reads (by assumption) (by with_reducible (repeat first | exact In.here | apply In.there)) (getML (d := (0 : UInt8)) (by ((try simp only [List.length_set, List.length_map, List.length_append, List.length_replicate, List.size_toArray]); omega))))) ?_
          refine TA.take 7 rfl rfl rfl rfl (by kernel_rfl) (by kernel_rfl) (by kernel_rfl) rfl (by kernel_rfl) (by kernel_rfl) (fun _ _ _ h => h) (Y.move rfl rfl) ?_
          refine TA.take 8 rfl rfl rfl rfl (by kernel_rfl) (by kernel_rfl) (by kernel_rfl) rfl (by kernel_rfl) (by kernel_rfl) (fun _ _ _ h => h) (Y.move rfl rfl) ?_
          refine TA.take 9 rfl rfl rfl rfl (by kernel_rfl) (by kernel_rfl) (by kernel_rfl) rfl (by kernel_rfl) (by kernel_rfl) (fun _ _ _ h => h) (Y.move rfl rfl) ?_
          refine TA.take 10 rfl rfl rfl rfl (by kernel_rfl) (by kernel_rfl) (by kernel_rfl) rfl (by kernel_rfl) (by kernel_rfl) (fun _ _ _ h => h) (Y.bin rfl rfl rfl (br_addN (n := 1) (by omega))) ?_
          refine TA.take 11 rfl rfl rfl rfl (by kernel_rfl) (by kernel_rfl) (by kernel_rfl) rfl (by kernel_rfl) (by kernel_rfl) (fun _ _ _ h => h) (Y.bin rfl rfl rfl (br_remN (n := 4) (by omega))) ?_
          refine TA.take 12 rfl rfl rfl rfl (by kernel_rfl) (by kernel_rfl) (by kernel_rfl) rfl (by kernel_rfl) (by kernel_rfl) (fun _ _ _ h => h) (Y.bin rfl rfl rfl (br_addN (m := 12) (by omega))) ?_
          refine TA.take 13 rfl rfl rfl rfl (by kernel_rfl) (by kernel_rfl) (by kernel_rfl) rfl (by kernel_rfl) (by kernel_rfl) (fun _ _ _ h => h) (Y.nilCheck rfl rfl) ?_
          refine TA.take 14 rfl rfl rfl rfl (by kernel_rfl) (by kernel_rfl) (by kernel_rfl) rfl (by kernel_rfl) (by kernel_rfl) (fun _ _ _ h => h) (Y.indexArr rfl ar22 rfl rfl (by omega) (by ((try simp only [Nat.zero_add, Nat.add_zero, Nat.mul_one, Nat.one_mul, Nat.mul_zero, Nat.zero_mul]) <;> rfl))) ?_
          refine TA.take 15 rfl rfl rfl rfl (by kernel_rfl) (by kernel_rfl) (by kernel_rfl) rfl (by kernel_rfl) (by kernel_rfl) (fun _ _ _ h => h) (Y.load rfl sc5 rfl (by first | exact Cel.blk (by with_reducible (repeat first | exact In.here | apply In.there)) (by first | exact getM (d := (0 : UInt8)) (by ((try simp only [List.length_set, List.length_map, List.length_append, List.length_replicate, List.size_toArray]); omega)) | rfl) | exact Cel.rblk (by with_reducible (repeat first | exact In.here | apply In.there)) (by first | exact getM (d := (0 : UInt8)) (by ((try simp only [List.length_set, List.length_map, List.length_append, List.length_replicate, List.size_toArray]); omega)) | rfl) | exact Cel.rds (by with_reducible (repeat first | exact In.here | apply In.there)) (getML (d := (0 : UInt8)) (by ((try simp only [List.length_set, List.length_map, List.length_append, List.length_replicate, List.size_toArray]); omega))) | exact Cel.owns (by with_reducible (repeat first | exact In.here | apply In.there)) (getML (d := (0 : UInt8)) (by ((try simp only [List.length_set, List.length_map, List.length_append, List.length_replicate, List.size_toArray]); omega))) | exact Cel.reads (by assumption) (by with_reducible (repeat first | exact In.here | apply In.there)) (getML (d := (0 : UInt8)) (by ((try simp only [List.length_set, List.length_map, List.length_append, List.length_replicate, List.size_toArray]); omega))))) ?_
          refine TA.take 16 rfl rfl rfl rfl (by kernel_rfl) (by kernel_rfl) (by kernel_rfl) rfl (by kernel_rfl) (by kernel_rfl) (fun _ _ _ h => h) (Y.nilCheck rfl rfl) ?_
          refine TA.take 17 rfl rfl rfl rfl (by kernel_rfl) (by kernel_rfl) (by kernel_rfl) rfl (by kernel_rfl) (by kernel_rfl) (fun _ _ _ h => h) (Y.fieldAddr rfl fo44_0 rfl (by ((try simp only [Nat.zero_add, Nat.add_zero, Nat.mul_one, Nat.one_mul, Nat.mul_zero, Nat.zero_mul]) <;> rfl))) ?_
          refine TA.take 18 rfl rfl rfl rfl (by kernel_rfl) (by kernel_rfl) (by kernel_rfl) rfl (by kernel_rfl) (by kernel_rfl) (fun _ _ _ h => h) (Y.indexArr rfl ar34 rfl rfl (by omega) (by ((try simp only [Nat.zero_add, Nat.add_zero, Nat.mul_one, Nat.one_mul, Nat.mul_zero, Nat.zero_mul]) <;> rfl))) ?_
          refine TA.take 19 rfl rfl rfl rfl (by kernel_rfl) (by kernel_rfl) (by kernel_rfl) rfl (by kernel_rfl) (by kernel_rfl) (fun _ _ _ h => h) (Y.load rfl sc5 rfl (by first | exact Cel.blk (by with_reducible (repeat first | exact In.here | apply In.there)) (by first | exact getM (d := (0 : UInt8)) (by ((try simp only [List.length_set, List.length_map, List.length_append, List.length_replicate, List.size_toArray]); omega)) | rfl) | exact Cel.rblk (by with_reducible (repeat first | exact In.here | apply In.there)) (by first | exact getM (d := (0 : UInt8)) (by ((try simp only [List.length_set, List.length_map, List.length_append, List.length_replicate, List.size_toArray]); omega)) | rfl) | exact Cel.rds (by with_reducible (repeat first | exact In.here | apply In.there)) (getML (d := (0 : UInt8)) (by ((try simp only [List.length_set, List.length_map, List.length_append, List.length_replicate, List.size_toArray]); omega))) | exact Cel.owns (by with_reducible (repeat first | exact In.here | apply In.there)) (getML (d := (0 : UInt8)) (by ((try simp only [List.length_set, List.length_map, List.length_append, List.length_replicate, List.size_toArray]); omega))) | exact Cel.reads (by assumption) (by with_reducible (repeat first | exact In.here | apply In.there)) (getML (d := (0 : UInt8)) (by ((try simp only [List.length_set, List.length_map, List.length_append, List.length_replicate, List.size_toArray]); omega))))) ?_
          refine TA.take 20 rfl rfl rfl rfl (by kernel_rfl) (by kernel_rfl) (by kernel_rfl) rfl (by kernel_rfl) (by kernel_rfl) (fun _ _ _ h => h) (Y.bin rfl rfl rfl (br_xor8)) ?_
          refine TA.takeP 21 rfl rfl rfl rfl (by kernel_rfl) (by kernel_rfl) (by kernel_rfl) rfl (fun _ _ _ h => h) (Y.nilCheck rfl rfl) ?_
          refine TA.take 22 rfl rfl rfl rfl (by kernel_rfl) (by kernel_rfl) (by kernel_rfl) rfl (by kernel_rfl) (by kernel_rfl) (fun _ _ _ h => h) (Y.indexArr rfl ar22 rfl rfl (by omega) (by ((try simp only [Nat.zero_add, Nat.add_zero, Nat.mul_one, Nat.one_mul, Nat.mul_zero, Nat.zero_mul]) <;> rfl))) ?_
          refine TA.one0 23 (by kernel_rfl) rfl rfl rfl (by first | exact X.store rfl sz5 rfl rfl rfl (by first | (with_reducible (repeat first | exact Pull.here | apply Pull.there); done) | (repeat first | exact Pull.here | apply Pull.there)) (by ((try simp only [List.length_set, List.length_map, List.length_append, List.length_replicate, List.size_toArray]); omega)) (by first | exact setM | rfl) | exact X.storeOwn rfl sz5 rfl (Nat.zero_add _).symm rfl rfl (by first | (with_reducible (repeat first | exact Pull.here | apply Pull.there); done) | (repeat first | exact Pull.here | apply Pull.there)) (by ((try simp only [List.length_set, List.length_map, List.length_append, List.length_replicate, List.size_toArray]); omega)) (by first | exact setML | rfl)) ?_
          rintro _ _ rfl
          refine ⟨(Or.inl (by kernel_rfl)), ?_⟩
          refine TA.done (by kernel_rfl) ?_
          refine TQ.block_normal ?_
          refine TQ.next ?_
          refine TC.region ?_
          refine TL.val rfl rfl rfl (Y.bin rfl rfl rfl (br_addN (n := 1) (by omega))) ?_
          refine TL.val rfl rfl rfl (Y.move rfl rfl) ?_
          refine TL.nil ?_
          rw [show 256 + r * 16 + i = 256 + (16 * r + i) by omega, show 256 + (r - 1) * 16 + i = 256 + (16 * (r - 1) + i) by omega, show 256 + (r - 1) * 16 + (12 + (i + 1) % 4) = 256 + (16 * (r - 1) + (12 + (i + 1) % 4)) by omega, fm_As key hk r i hr1 (by omega) (by omega)]
          refine TQ.loopF (i + 1) (by omega) (by omega) ⟨rfl, trivial⟩ (by (repeat first | exact Grow.refl | apply Grow.step | apply Grow.app)) ?_ ?_ ?_
          · kernel_rfl
          · rfl
          · simp only [List.cons_append, List.nil_append]
            exact (by (repeat first | (with_reducible exact Ent.refl) | (with_reducible exact Ent.nil) | refine Ent.cons (by first | (with_reducible (repeat first | exact Pull.here | apply Pull.there); done) | (repeat first | exact Pull.here | apply Pull.there)) ?_ | refine Ent.skip ?_))
        · try simp only [decide_eq_true_eq, decide_eq_false_iff_not, Bool.not_eq_true', Bool.not_eq_false', Bool.and_eq_true, Bool.or_eq_true, Nat.not_lt, Nat.not_le, beq_iff_eq, bne_iff_ne] at c3
          refine TC.exit ?_
          refine TQ.then_exit ?_
          refine TQ.then_exit ?_
          refine TQ.block_exit ?_
          refine TQ.next ?_
          refine TC.seq ?_
          obtain rfl : i = 4 := by omega
          have hl5 := fm_len (fA key r 4)
          refine TC.draws 8 _ (by kernel_rfl) (fun _ h => h) ?_
          refine TA.take 0 rfl rfl rfl rfl (by kernel_rfl) (by kernel_rfl) (by kernel_rfl) rfl (by kernel_rfl) (by kernel_rfl) (fun _ _ _ h => h) (Y.move rfl rfl) ?_
          refine TA.take 1 rfl rfl rfl rfl (by kernel_rfl) (by kernel_rfl) (by kernel_rfl) rfl (by kernel_rfl) (by kernel_rfl) (fun _ _ _ h => h) (Y.nilCheck rfl rfl) ?_
          refine TA.take 2 rfl rfl rfl rfl (by kernel_rfl) (by kernel_rfl) (by kernel_rfl) rfl (by kernel_rfl) (by kernel_rfl) (fun _ _ _ h => h) (Y.indexArr (j := 0) rfl ar22 rfl rfl (by omega) (by ((try simp only [Nat.zero_add, Nat.add_zero, Nat.mul_one, Nat.one_mul, Nat.mul_zero, Nat.zero_mul]) <;> rfl))) ?_
          refine TA.take 3 rfl rfl rfl rfl (by kernel_rfl) (by kernel_rfl) (by kernel_rfl) rfl (by kernel_rfl) (by kernel_rfl) (fun _ _ _ h => h) (Y.load rfl sc5 rfl (by first | exact Cel.blk (by with_reducible (repeat first | exact In.here | apply In.there)) (by first | exact getM (d := (0 : UInt8)) (by ((try simp only [List.length_set, List.length_map, List.length_append, List.length_replicate, List.size_toArray]); omega)) | rfl) | exact Cel.rblk (by with_reducible (repeat first | exact In.here | apply In.there)) (by first | exact getM (d := (0 : UInt8)) (by ((try simp only [List.length_set, List.length_map, List.length_append, List.length_replicate, List.size_toArray]); omega)) | rfl) | exact Cel.rds (by with_reducible (repeat first | exact In.here | apply In.there)) (getML (d := (0 : UInt8)) (by ((try simp only [List.length_set, List.length_map, List.length_append, List.length_replicate, List.size_toArray]); omega))) | exact Cel.owns (by with_reducible (repeat first | exact In.here | apply In.there)) (getML (d := (0 : UInt8)) (by ((try simp only [List.length_set, List.length_map, List.length_append, List.length_replicate, List.size_toArray]); omega))) | exact Cel.reads (by assumption) (by with_reducible (repeat first | exact In.here | apply In.there)) (getML (d := (0 : UInt8)) (by ((try simp only [List.length_set, List.length_map, List.length_append, List.length_replicate, List.size_toArray]); omega))))) ?_
          refine TA.take 4 rfl rfl rfl rfl (by kernel_rfl) (by kernel_rfl) (by kernel_rfl) rfl (by kernel_rfl) (by kernel_rfl) (fun _ _ _ h => h) (Y.move rfl rfl) ?_
          refine TA.take 5 rfl rfl rfl rfl (by kernel_rfl) (by kernel_rfl) (by kernel_rfl) rfl (by kernel_rfl) (by kernel_rfl) (fun _ _ _ h => h) (Y.bin rfl rfl rfl (br_xor8)) ?_
          refine TA.takeP 6 rfl rfl rfl rfl (by kernel_rfl) (by kernel_rfl) (by kernel_rfl) rfl (fun _ _ _ h => h) (Y.nilCheck rfl rfl) ?_
          refine TA.take 7 rfl rfl rfl rfl (by kernel_rfl) (by kernel_rfl) (by kernel_rfl) rfl (by kernel_rfl) (by kernel_rfl) (fun _ _ _ h => h) (Y.indexArr (j := 0) rfl ar22 rfl rfl (by omega) (by ((try simp only [Nat.zero_add, Nat.add_zero, Nat.mul_one, Nat.one_mul, Nat.mul_zero, Nat.zero_mul]) <;> rfl))) ?_
          refine TA.one0 8 (by kernel_rfl) rfl rfl rfl (by first | exact X.store rfl sz5 rfl rfl rfl (by first | (with_reducible (repeat first | exact Pull.here | apply Pull.there); done) | (repeat first | exact Pull.here | apply Pull.there)) (by ((try simp only [List.length_set, List.length_map, List.length_append, List.length_replicate, List.size_toArray]); omega)) (by first | exact setM | rfl) | exact X.storeOwn rfl sz5 rfl (Nat.zero_add _).symm rfl rfl (by first | (with_reducible (repeat first | exact Pull.here | apply Pull.there); done) | (repeat first | exact Pull.here | apply Pull.there)) (by ((try simp only [List.length_set, List.length_map, List.length_append, List.length_replicate, List.size_toArray]); omega)) (by first | exact setML | rfl)) ?_
          rintro _ _ rfl
          refine ⟨(Or.inl (by kernel_rfl)), ?_⟩
          refine TA.done (by kernel_rfl) ?_
          rw [show 256 + r * 16 = 256 + 16 * r by omega, fm_mk key r (by omega)]
          refine TQ.next ?_
          refine TC.seq ?_
          refine TC.region ?_
          refine TL.val rfl rfl rfl (Y.move rfl rfl) ?_
          refine TL.eff rfl rfl rfl (X.call rfl Try.func17 (by kernel_rfl) rfl rfl (dbl_fn _ _)) ?_
          rintro _ _ ⟨rfl, rfl⟩
          refine TL.val rfl rfl rfl (Y.assign rfl rfl) ?_
          refine TL.nil ?_
          refine TQ.next ?_
          refine TC.seq ?_
          refine TC.region ?_
          refine TL.val rfl rfl rfl (Y.assign rfl rfl) ?_
          refine TL.nil ?_
          refine TQ.next ?_
          refine TC.block ?_
          refine TC.loopF (ι := Nat) [] (fun i => 4 ≤ i ∧ i ≤ 16) (fun i => [(11, some (vN i))]) (fun i => [SA.blk b13 ((fm (fB key r i)).map v8).toArray 44]) (fun i => 16 - i) (4) (⟨by omega, by omega⟩) ⟨rfl, trivial⟩ (Pulls.cons (by first | (with_reducible (repeat first | exact Pull.here | apply Pull.there); done) | (repeat first | exact Pull.here | apply Pull.there)) Pulls.nil) ?_
          rintro i ⟨hi4, hi16⟩ F' L' rfl hL'
          simp only [List.cons_append, List.nil_append] at hL'
          subst hL'
          have hl6 := fm_len (fB key r i)
          refine TC.seq ?_
          refine TC.seq ?_
          refine TC.region ?_
          refine TL.val rfl rfl rfl (Y.move rfl rfl) ?_
          refine TL.val rfl rfl rfl (Y.bin rfl rfl rfl (br_ltN (n := 16))) ?_
          refine TL.nil ?_
          refine TQ.next ?_
          refine TC.cond rfl (fun c4 => ?_) (fun c4 => ?_)
          · try simp only [decide_eq_true_eq, decide_eq_false_iff_not, Bool.not_eq_true', Bool.not_eq_false', Bool.and_eq_true, Bool.or_eq_true, Nat.not_lt, Nat.not_le, beq_iff_eq, bne_iff_ne] at c4
            refine TC.skip ?_
            refine TQ.next ?_
            refine TC.seq ?_
            refine TC.block ?_
            refine TC.draws 16 _ (by kernel_rfl) (fun _ h => h) ?_
            refine TA.take 0 rfl rfl rfl rfl (by kernel_rfl) (by kernel_rfl) (by kernel_rfl) rfl (by kernel_rfl) (by kernel_rfl) (fun _ _ _ h => h) (Y.move rfl rfl) ?_
            refine TA.take 1 rfl rfl rfl rfl (by kernel_rfl) (by kernel_rfl) (by kernel_rfl) rfl (by kernel_rfl) (by kernel_rfl) (fun _ _ _ h => h) (Y.move rfl rfl) ?_
            refine TA.take 2 rfl rfl rfl rfl (by kernel_rfl) (by kernel_rfl) (by kernel_rfl) rfl (by kernel_rfl) (by kernel_rfl) (fun _ _ _ h => h) (Y.move rfl rfl) ?_
            refine TA.take 3 rfl rfl rfl rfl (by kernel_rfl) (by kernel_rfl) (by kernel_rfl) rfl (by kernel_rfl) (by kernel_rfl) (fun _ _ _ h => h) (Y.move rfl rfl) ?_
            refine TA.take 4 rfl rfl rfl rfl (by kernel_rfl) (by kernel_rfl) (by kernel_rfl) rfl (by kernel_rfl) (by kernel_rfl) (fun _ _ _ h => h) (Y.nilCheck rfl rfl) ?_
            refine TA.take 5 rfl rfl rfl rfl (by kernel_rfl) (by kernel_rfl) (by kernel_rfl) rfl (by kernel_rfl) (by kernel_rfl) (fun _ _ _ h => h) (Y.indexArr rfl ar22 rfl rfl (by omega) (by ((try simp only [Nat.zero_add, Nat.add_zero, Nat.mul_one, Nat.one_mul, Nat.mul_zero, Nat.zero_mul]) <;> rfl))) ?_
            refine TA.take 6 rfl rfl rfl rfl (by kernel_rfl) (by kernel_rfl) (by kernel_rfl) rfl (by kernel_rfl) (by kernel_rfl) (fun _ _ _ h => h) (Y.load rfl sc5 rfl (by first | exact Cel.blk (by with_reducible (repeat first | exact In.here | apply In.there)) (by first | exact getM (d := (0 : UInt8)) (by ((try simp only [List.length_set, List.length_map, List.length_append, List.length_replicate, List.size_toArray]); omega)) | rfl) | exact Cel.rblk (by with_reducible (repeat first | exact In.here | apply In.there)) (by first | exact getM (d := (0 : UInt8)) (by ((try simp only [List.length_set, List.length_map, List.length_append, List.length_replicate, List.size_toArray]); omega)) | rfl) | exact Cel.rds (by with_reducible (repeat first | exact In.here | apply In.there)) (getML (d := (0 : UInt8)) (by ((try simp only [List.length_set, List.length_map, List.length_append, List.length_replicate, List.size_toArray]); omega))) | exact Cel.owns (by with_reducible (repeat first | exact In.here | apply In.there)) (getML (d := (0 : UInt8)) (by ((try simp only [List.length_set, List.length_map, List.length_append, List.length_replicate, List.size_toArray]); omega))) | exact Cel.reads (by assumption) (by with_reducible (repeat first | exact In.here | apply In.there)) (getML (d := (0 : UInt8)) (by ((try simp only [List.length_set, List.length_map, List.length_append, List.length_replicate, List.size_toArray]); omega))))) ?_
            refine TA.take 7 rfl rfl rfl rfl (by kernel_rfl) (by kernel_rfl) (by kernel_rfl) rfl (by kernel_rfl) (by kernel_rfl) (fun _ _ _ h => h) (Y.move rfl rfl) ?_
            refine TA.take 8 rfl rfl rfl rfl (by kernel_rfl) (by kernel_rfl) (by kernel_rfl) rfl (by kernel_rfl) (by kernel_rfl) (fun _ _ _ h => h) (Y.move rfl rfl) ?_
            refine TA.take 9 rfl rfl rfl rfl (by kernel_rfl) (by kernel_rfl) (by kernel_rfl) rfl (by kernel_rfl) (by kernel_rfl) (fun _ _ _ h => h) (Y.bin rfl rfl rfl (br_subN (n := 4) (by omega) (by omega))) ?_
            refine TA.take 10 rfl rfl rfl rfl (by kernel_rfl) (by kernel_rfl) (by kernel_rfl) rfl (by kernel_rfl) (by kernel_rfl) (fun _ _ _ h => h) (Y.nilCheck rfl rfl) ?_
            refine TA.take 11 rfl rfl rfl rfl (by kernel_rfl) (by kernel_rfl) (by kernel_rfl) rfl (by kernel_rfl) (by kernel_rfl) (fun _ _ _ h => h) (Y.indexArr rfl ar22 rfl rfl (by omega) (by ((try simp only [Nat.zero_add, Nat.add_zero, Nat.mul_one, Nat.one_mul, Nat.mul_zero, Nat.zero_mul]) <;> rfl))) ?_
            refine TA.take 12 rfl rfl rfl rfl (by kernel_rfl) (by kernel_rfl) (by kernel_rfl) rfl (by kernel_rfl) (by kernel_rfl) (fun _ _ _ h => h) (Y.load rfl sc5 rfl (by first | exact Cel.blk (by with_reducible (repeat first | exact In.here | apply In.there)) (by first | exact getM (d := (0 : UInt8)) (by ((try simp only [List.length_set, List.length_map, List.length_append, List.length_replicate, List.size_toArray]); omega)) | rfl) | exact Cel.rblk (by with_reducible (repeat first | exact In.here | apply In.there)) (by first | exact getM (d := (0 : UInt8)) (by ((try simp only [List.length_set, List.length_map, List.length_append, List.length_replicate, List.size_toArray]); omega)) | rfl) | exact Cel.rds (by with_reducible (repeat first | exact In.here | apply In.there)) (getML (d := (0 : UInt8)) (by ((try simp only [List.length_set, List.length_map, List.length_append, List.length_replicate, List.size_toArray]); omega))) | exact Cel.owns (by with_reducible (repeat first | exact In.here | apply In.there)) (getML (d := (0 : UInt8)) (by ((try simp only [List.length_set, List.length_map, List.length_append, List.length_replicate, List.size_toArray]); omega))) | exact Cel.reads (by assumption) (by with_reducible (repeat first | exact In.here | apply In.there)) (getML (d := (0 : UInt8)) (by ((try simp only [List.length_set, List.length_map, List.length_append, List.length_replicate, List.size_toArray]); omega))))) ?_
            refine TA.take 13 rfl rfl rfl rfl (by kernel_rfl) (by kernel_rfl) (by kernel_rfl) rfl (by kernel_rfl) (by kernel_rfl) (fun _ _ _ h => h) (Y.bin rfl rfl rfl (br_xor8)) ?_
            refine TA.takeP 14 rfl rfl rfl rfl (by kernel_rfl) (by kernel_rfl) (by kernel_rfl) rfl (fun _ _ _ h => h) (Y.nilCheck rfl rfl) ?_
            refine TA.take 15 rfl rfl rfl rfl (by kernel_rfl) (by kernel_rfl) (by kernel_rfl) rfl (by kernel_rfl) (by kernel_rfl) (fun _ _ _ h => h) (Y.indexArr rfl ar22 rfl rfl (by omega) (by ((try simp only [Nat.zero_add, Nat.add_zero, Nat.mul_one, Nat.one_mul, Nat.mul_zero, Nat.zero_mul]) <;> rfl))) ?_
            refine TA.one0 16 (by kernel_rfl) rfl rfl rfl (by first | exact X.store rfl sz5 rfl rfl rfl (by first | (with_reducible (repeat first | exact Pull.here | apply Pull.there); done) | (repeat first | exact Pull.here | apply Pull.there)) (by ((try simp only [List.length_set, List.length_map, List.length_append, List.length_replicate, List.size_toArray]); omega)) (by first | exact setM | rfl) | exact X.storeOwn rfl sz5 rfl (Nat.zero_add _).symm rfl rfl (by first | (with_reducible (repeat first | exact Pull.here | apply Pull.there); done) | (repeat first | exact Pull.here | apply Pull.there)) (by ((try simp only [List.length_set, List.length_map, List.length_append, List.length_replicate, List.size_toArray]); omega)) (by first | exact setML | rfl)) ?_
            rintro _ _ rfl
            refine ⟨(Or.inl (by kernel_rfl)), ?_⟩
            refine TA.done (by kernel_rfl) ?_
            refine TQ.block_normal ?_
            refine TQ.next ?_
            refine TC.region ?_
            refine TL.val rfl rfl rfl (Y.move rfl rfl) ?_
            refine TL.val rfl rfl rfl (Y.bin rfl rfl rfl (br_addN (n := 1) (by omega))) ?_
            refine TL.val rfl rfl rfl (Y.assign rfl rfl) ?_
            refine TL.nil ?_
            rw [show 256 + 16 * r + i = 256 + (16 * r + i) by omega, show 256 + (r - 1) * 16 + i = 256 + (16 * (r - 1) + i) by omega, show 256 + 16 * r + (i - 4) = 256 + (16 * r + (i - 4)) by omega, fm_Bs key hk r i hr1 (by omega) (by omega) (by omega)]
            refine TQ.loopF (i + 1) (⟨by omega, by omega⟩) (by omega) ⟨rfl, trivial⟩ (by (repeat first | exact Grow.refl | apply Grow.step | apply Grow.app)) ?_ ?_ ?_
            · kernel_rfl
            · rfl
            · simp only [List.cons_append, List.nil_append]
              exact (by (repeat first | (with_reducible exact Ent.refl) | (with_reducible exact Ent.nil) | refine Ent.cons (by first | (with_reducible (repeat first | exact Pull.here | apply Pull.there); done) | (repeat first | exact Pull.here | apply Pull.there)) ?_ | refine Ent.skip ?_))
          · try simp only [decide_eq_true_eq, decide_eq_false_iff_not, Bool.not_eq_true', Bool.not_eq_false', Bool.and_eq_true, Bool.or_eq_true, Nat.not_lt, Nat.not_le, beq_iff_eq, bne_iff_ne] at c4
            refine TC.exit ?_
            refine TQ.then_exit ?_
            refine TQ.then_exit ?_
            refine TQ.block_exit ?_
            refine TQ.block_normal ?_
            refine TQ.next ?_
            refine TC.region ?_
            refine TL.val rfl rfl rfl (Y.move rfl rfl) ?_
            refine TL.val rfl rfl rfl (Y.bin rfl rfl rfl (br_addN (n := 1) (by omega))) ?_
            refine TL.val rfl rfl rfl (Y.assign rfl rfl) ?_
            refine TL.nil ?_
            obtain rfl : i = 16 := by omega
            rw [fm_B16]
            refine TQ.loopF (r + 1) (⟨by omega, by omega⟩) (by omega) ⟨rfl, rfl, trivial⟩ (by (repeat first | exact Grow.refl | apply Grow.step | apply Grow.app)) ?_ ?_ ?_
            · kernel_rfl
            · rfl
            · simp only [List.cons_append, List.nil_append]
              exact (by (repeat first | (with_reducible exact Ent.refl) | (with_reducible exact Ent.nil) | refine Ent.cons (by first | (with_reducible (repeat first | exact Pull.here | apply Pull.there); done) | (repeat first | exact Pull.here | apply Pull.there)) ?_ | refine Ent.skip ?_))
      · try simp only [decide_eq_true_eq, decide_eq_false_iff_not, Bool.not_eq_true', Bool.not_eq_false', Bool.and_eq_true, Bool.or_eq_true, Nat.not_lt, Nat.not_le, beq_iff_eq, bne_iff_ne] at c2
        refine TC.exit ?_
        refine TQ.then_exit ?_
        refine TQ.then_exit ?_
        refine TQ.block_exit ?_
        refine TQ.next ?_
        refine TC.seq ?_
        obtain rfl : r = 11 := by omega
        rw [fm_end]
        refine TC.region ?_
        refine TL.val rfl rfl rfl (Y.move rfl rfl) ?_
        refine TL.val rfl rfl rfl (Y.assign rfl rfl) ?_
        refine TL.nil ?_
        refine TQ.next ?_
        refine TC.ret ?_
        refine TQ.retE (res1 rfl rfl) (⟨_, rfl, rfl⟩) ?_
        exact (by (repeat first | (with_reducible exact Ent.refl) | (with_reducible exact Ent.nil) | refine Ent.cons (by first | (with_reducible (repeat first | exact Pull.here | apply Pull.there); done) | (repeat first | exact Pull.here | apply Pull.there)) ?_ | refine Ent.skip ?_))
    · try simp only [decide_eq_true_eq, decide_eq_false_iff_not, Bool.not_eq_true', Bool.not_eq_false', Bool.and_eq_true, Bool.or_eq_true, Nat.not_lt, Nat.not_le, beq_iff_eq, bne_iff_ne] at c1
      refine TC.skip ?_
      refine TQ.block_normal ?_
      refine TQ.loopF (k + 1) (by omega) (by omega) ⟨rfl, rfl, trivial⟩ (by (repeat first | exact Grow.refl | apply Grow.step | apply Grow.app)) ?_ ?_ ?_
      · kernel_rfl
      · rfl
      · simp only [List.cons_append, List.nil_append]
        exact (by (repeat first | (with_reducible exact Ent.refl) | (with_reducible exact Ent.nil) | refine Ent.cons (by first | (with_reducible (repeat first | exact Pull.here | apply Pull.there); done) | (repeat first | exact Pull.here | apply Pull.there)) ?_ | refine Ent.skip ?_))
end aes
end Go.Proofs.Ytpddnhjpjmbgfaa
