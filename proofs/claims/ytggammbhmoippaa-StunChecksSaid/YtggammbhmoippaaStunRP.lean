/- the document's Parse, walked. -/
import Derived.Test.YtggammbhmoippaaStunPQ
import Derived.Test.YtggammbhmoippaaStunRB
import Derived.Test.YtggammbhmoippaaStunL1
import Derived.Test.YtggammbhmoippaaHAuto
namespace Go.Proofs.Ytggammbhmoippaa
set_option linter.unusedVariables false
set_option linter.unusedSimpArgs false
open Go.RowKit
namespace stun
open wr (pad4 pad4_length pad4_mod pad4_head pad4_step pad4_done be16 be32)
open r1 (be2 be4 be2_len be4_len)
namespace FxStunRP
set_option maxRecDepth 100000
theorem ag25 : Program.aggN Try.prog 25 = some 15 := by kernel_rfl
theorem el23 : Elt Try.prog 23 65 2 32 (.agg #[.int .u16 0, .slice none 0 0]) := ⟨Try.underlying23, by kernel_rfl, rfl, by decide, by simp [Value.cells, Value.oneCell']⟩
theorem el27 : Elt Try.prog 27 5 1 1 (.int .u8 0) := ⟨Try.underlying27, by kernel_rfl, rfl, by decide, by simp [Value.cells, Value.oneCell']⟩
theorem fo25_2 : Program.fieldOff Try.prog 25 2 = some 2 := by kernel_rfl
theorem fo25_3 : Program.fieldOff Try.prog 25 3 = some 14 := by kernel_rfl
theorem pl25 : Program.places Try.prog 25 = some [(0, 1), (1, 1), (2, 12), (14, 1)] := by kernel_rfl
theorem pl65 : Program.places Try.prog 65 = some [(0, 1), (1, 1)] := by kernel_rfl
theorem sc23 : Program.isSc Try.prog 23 = true := by kernel_rfl
theorem sc5 : Program.isSc Try.prog 5 = true := by kernel_rfl
theorem sl27 : Program.slI Try.prog 27 = some 1 := by kernel_rfl
theorem sz25 : (Try.prog.info? 25).map (·.size) = some 15 := by kernel_rfl
theorem sz5 : (Try.prog.info? 5).map (·.size) = some 1 := by kernel_rfl
theorem zc25 : Program.zeroC Try.prog 25 = some #[.int .i64 0, .int .i64 0, .int .u8 0, .int .u8 0, .int .u8 0, .int .u8 0, .int .u8 0, .int .u8 0, .int .u8 0, .int .u8 0, .int .u8 0, .int .u8 0, .int .u8 0, .int .u8 0, .slice none 0 0] := by kernel_rfl
theorem zc65 : Program.zeroC Try.prog 65 = some #[.int .u16 0, .slice none 0 0] := by kernel_rfl
theorem zs65 : ((Try.prog.info? 65).bind fun i => i.zero.map fun z => (i.size, z.cells.size)) = some (2, 2) := by kernel_rfl
end FxStunRP
open FxStunRP
def at2 (b : List UInt8) (i : Nat) : Nat := (b.getD i 0).toNat * 256 + (b.getD (i + 1) 0).toNat
theorem at2_lt (b : List UInt8) (i : Nat) : at2 b i < 65536 := by
  have h1 := (b.getD i 0).toNat_lt; have h2 := (b.getD (i + 1) 0).toNat_lt
  unfold at2; omega
theorem getD_dropE {b : List UInt8} {i j : Nat} {x : UInt8} {r : List UInt8} (h : b.drop i = r) (hx : r[j]? = some x) : b.getD (i + j) 0 = x := by
  rw [List.getD_eq_getElem?_getD, ← List.getElem?_drop, h, hx]; rfl
theorem be2_at {b : List UInt8} {i n : Nat} {r : List UInt8} (hn : n < 65536) (h : b.drop i = be2 n ++ r) : at2 b i = n := by
  have h0 := getD_dropE (j := 0) h rfl
  have h1 := getD_dropE (j := 1) h rfl
  have hm : UInt8.size = 256 := rfl
  rw [Nat.add_zero] at h0
  unfold at2
  rw [h0, h1, UInt8.toNat_ofNat', UInt8.toNat_ofNat']
  omega
theorem enc_head {z : PA} {r b : List UInt8} {i : Nat} (hz : z.2.length < 65536) (h : b.drop i = encA z ++ r) :
    at2 b i = z.1.toNat ∧ at2 b (i + 2) = z.2.length ∧ (b.drop (i + 4)).take z.2.length = z.2 ∧ b.drop (i + 4 + (z.2.length + 3) / 4 * 4) = r ∧ i + 4 + (z.2.length + 3) / 4 * 4 ≤ b.length ∧ i + 4 + z.2.length ≤ b.length := by
  have hp : z.2.length + padN z.2.length = (z.2.length + 3) / 4 * 4 := by unfold padN; omega
  rw [encA_eq] at h
  simp only [List.append_assoc] at h
  have d2 : b.drop (i + 2) = be2 z.2.length ++ (z.2 ++ (List.replicate (padN z.2.length) 0 ++ r)) := by rw [← List.drop_drop, h]; rfl
  have d4 : b.drop (i + 4) = z.2 ++ (List.replicate (padN z.2.length) 0 ++ r) := by rw [show i + 4 = i + 2 + 2 by omega, ← List.drop_drop, d2]; rfl
  have hl := congrArg List.length d4
  have h2 := congrArg List.length d2
  simp [be2] at hl h2
  refine ⟨be2_at z.1.toNat_lt h, be2_at hz d2, by rw [d4]; simp, ?_, by omega, by omega⟩
  rw [← hp, ← List.drop_drop, ← List.drop_drop, d4]
  simp
/-- what has been read of the attributes -/
structure RI (b rest : List UInt8) (at' : Nat) (xs : List PA) : Prop where
  all : ∀ ys, small ys → enc ys = rest → ∃ zs, ys = xs ++ zs ∧ b.drop at' = enc zs ∧ at' ≤ b.length
  lo : 20 + 4 * xs.length ≤ at'
  hi : at' ≤ b.length + 3
theorem RI.start {b rest : List UInt8} (h : b.drop 20 = rest) (hl : 20 ≤ b.length) : RI b rest 20 [] := ⟨fun ys _ he => ⟨ys, rfl, by rw [h, he], hl⟩, by simp, by omega⟩
theorem RI.cons {b rest : List UInt8} {at' : Nat} {xs ys : List PA} (h : RI b rest at' xs) (hl : at' < b.length) (hs : small ys) (he : enc ys = rest) : ∃ z zs, ys = xs ++ z :: zs ∧ z.2.length < 65536 ∧ b.drop at' = encA z ++ enc zs := by
  obtain ⟨zs, h1, h2, h3⟩ := h.all ys hs he
  cases zs with
  | nil =>
    have := congrArg List.length h2
    simp [enc] at this
    omega
  | cons z zs => exact ⟨z, zs, h1, hs z (by simp [h1]), by rw [h2, enc_cons]⟩
theorem RI.step {b rest : List UInt8} {at' n : Nat} {xs : List PA} {t : UInt16} {v : List UInt8} (h : RI b rest at' xs) (hl : at' < b.length) (ht : t.toNat = at2 b at') (hn : n = at2 b (at' + 2)) (hv : v = (b.drop (at' + 4)).take n) (h1 : at' + 4 + n ≤ b.length) :
    RI b rest (at' + 4 + (n + 3) / 4 * 4) (xs ++ [(t, v)]) := by
  have := h.lo
  refine ⟨fun ys hs he => ?_, by simp; omega, by omega⟩
  obtain ⟨z, zs, e1, hz, e2⟩ := h.cons hl hs he
  obtain ⟨a1, a2, a3, a4, a5, -⟩ := enc_head hz e2
  rw [← hn] at a2
  subst a2
  have e : (t, v) = z := Prod.ext (UInt16.toNat_inj.1 (ht.trans a1)) (hv.trans a3)
  exact ⟨zs, by rw [e1, e]; simp, a4, a5⟩
theorem RI.no4 {b rest : List UInt8} {at' : Nat} {xs : List PA} (h : RI b rest at' xs) (hl : at' < b.length) (h4 : b.length < at' + 4) : ∀ ys, small ys → enc ys ≠ rest := fun ys hs he => by
  obtain ⟨z, zs, e1, hz, e2⟩ := h.cons hl hs he
  obtain ⟨a1, a2, a3, a4, a5, a6⟩ := enc_head hz e2
  omega
theorem RI.noV {b rest : List UInt8} {at' n : Nat} {xs : List PA} (h : RI b rest at' xs) (hl : at' < b.length) (hn : n = at2 b (at' + 2)) (h4 : b.length < at' + 4 + n) : ∀ ys, small ys → enc ys ≠ rest := fun ys hs he => by
  obtain ⟨z, zs, e1, hz, e2⟩ := h.cons hl hs he
  obtain ⟨a1, a2, a3, a4, a5, a6⟩ := enc_head hz e2
  omega
/-- the message that was read is the only one that there may be -/
theorem RI.only {k0 k1 n0 n1 m0 m1 m2 m3 : UInt8} {f : Nat → UInt8} {rest b : List UInt8} {k at' : Nat} {xs : List PA} (hb : b = [k0, k1, n0, n1, m0, m1, m2, m3] ++ (idL f ++ rest)) (hk : k = k0.toNat * 256 + k1.toNat)
    (h : RI b rest at' xs) (hl : b.length ≤ at') (x : SMsg) (hx : x.id.length = 12) (hB : x.build = some b) : x = ⟨clsR k, mthR k, idL f, xs⟩ := by
  have hB' := hB
  rw [hb] at hB'
  obtain ⟨hg', h1, h2, -, h3, he, -⟩ := build_head hx hB'
  obtain ⟨zs, e1, e2, e3⟩ := h.all _ (small_good hg') he
  obtain rfl : zs = [] := by
    cases zs with
    | nil => rfl
    | cons z zs =>
      have := congrArg List.length e2
      have hp := encA_pos z
      rw [enc_cons] at this
      simp at this
      omega
  obtain ⟨g1, g2, g3, g4, g5, g6⟩ := good_parts hg'
  obtain ⟨k1, k2, k3, k4, k5⟩ := kind_of x.cls.toNat x.mth.toNat (by omega) (by omega)
  rw [h1, ← hk] at k1 k2
  rw [List.append_nil] at e1
  rw [k1, k2, ← e1, ← h3, Int.toNat_of_nonneg g2, Int.toNat_of_nonneg g4]
theorem shl_or16 (x y : UInt8) : (shl16 x.toUInt16 8 ||| y.toUInt16).toNat = x.toNat * 256 + y.toNat := by
  have hx := x.toNat_lt; have hy := y.toNat_lt
  rw [UInt16.toNat_or, shl16, UInt16.toNat_ofNat_of_lt' (by show _ < 65536; simp; omega)]
  simp
  exact or_add _ _ (by omega)
theorem oe_no {o : Option (List UInt8)} {b : List UInt8} (h : ¬ oe o = 0) : o ≠ some b := fun e => by rw [e] at h; exact h rfl
theorem ob_no {o : Option (List UInt8)} {b : List UInt8} (h : ¬ ob o = b) : o ≠ some b := fun e => by rw [e] at h; exact h rfl
theorem ob_yes {o : Option (List UInt8)} {b : List UInt8} (h1 : oe o = 0) (h : ob o = b) : o = some b := by
  cases o with
  | none => cases h1
  | some w => exact congrArg some h
theorem refParse_len (a : Option Addr) (n cap : Nat) (b : List UInt8) (hn : b.length = n) (hs : b.length < 20 ∨ 1500 < b.length) (L : List SA) :
    Fn Try.prog 13 [.slice a n cap] (SA.rds 1 (.slice a n cap) n (b.map v8) :: L)
      (fun v L' => v = .tuple #[.agg zmsg, vN 2] ∧ L' = SA.rds 1 (.slice a n cap) n (b.map v8) :: L) := by
  refine Fn.of (N := 139) Try.func13 rfl rfl ?_
  intro Xh
  refine TC.seq ?_
  refine TC.region ?_
  refine TL.eff rfl rfl rfl (X.alloc rfl zc25) ?_
  rintro _ _ ⟨b2, rfl, rfl⟩
  refine TL.val rfl rfl rfl (Y.assign rfl rfl) ?_
  refine TL.nil ?_
  refine TQ.next ?_
  refine TC.seq ?_
  refine TC.seq ?_
  refine TC.region ?_
  refine TL.val rfl rfl rfl (Y.move rfl rfl) ?_
  refine TL.val rfl rfl rfl (Y.len rfl Try.underlying27 rfl) ?_
  refine TL.val rfl rfl rfl (Y.bin rfl rfl rfl (br_ltN (n := 20))) ?_
  refine TL.val rfl rfl rfl (Y.move rfl rfl) ?_
  refine TL.case (fun g1_3 => ?_) (fun g1_3 => ?_)
  · try simp only [decide_eq_true_eq, decide_eq_false_iff_not, Bool.not_eq_true', Bool.not_eq_false', Nat.not_lt, Nat.not_le, beq_iff_eq, bne_iff_ne] at g1_3
    refine TL.not rfl rfl rfl ?_
    refine TL.not rfl rfl rfl ?_
    refine TL.not rfl rfl rfl ?_
    refine TL.val rfl rfl rfl (Y.pick_t rfl rfl rfl) ?_
    refine TL.nil ?_
    refine TQ.next ?_
    refine TC.cond_t rfl ?_
    refine TC.seq ?_
    refine TC.region ?_
    refine TL.val rfl rfl rfl (Y.buildS rfl rfl pl25 zc25 rfl) ?_
    refine TL.as (.agg zmsg) (by rfl) ?_
    refine TL.eff0 rfl rfl (by first | exact X.storeAll rfl sz25 (by rfl) rfl rfl (allOne (by rfl)) pul (by rfl) | exact X.storeAll rfl sz25 szz rfl rfl (by simp [Value.oneCell']) pul szz | exact X.storeAgg rfl sz25 szz rfl rfl (by simp [Value.oneCell']) pul szz (writeM (by ((try simp only [List.length_set, List.length_map, List.length_append, List.length_replicate]); omega)))) ?_
    rintro _ _ rfl
    refine TL.val rfl rfl rfl (Y.assign rfl rfl) ?_
    refine TL.nil ?_
    refine TQ.next ?_
    refine TC.ret ?_
    refine TQ.then_ret ?_
    refine TQ.retE (resL rfl (Res.agg rfl ag25 (Cels.all (cs := zmsg) inn) (by first | rfl | assumption | omega) (Res.tmp rfl Res.nil))) (⟨rfl, rfl⟩) ?_
    exact ett
  · try simp only [decide_eq_true_eq, decide_eq_false_iff_not, Bool.not_eq_true', Bool.not_eq_false', Nat.not_lt, Nat.not_le, beq_iff_eq, bne_iff_ne] at g1_3
    refine TL.valG rfl rfl rfl (Y.move rfl rfl) ?_
    refine TL.valG rfl rfl rfl (Y.len rfl Try.underlying27 rfl) ?_
    refine TL.valG rfl rfl rfl (Y.bin rfl rfl rfl (br_gtN (n := 1500))) ?_
    refine TL.val rfl rfl rfl (Y.pick_f rfl rfl rfl) ?_
    refine TL.nil ?_
    refine TQ.next ?_
    refine TC.cond rfl (fun c0 => ?_) (fun c0 => ?_)
    · try simp only [decide_eq_true_eq, decide_eq_false_iff_not, Bool.not_eq_true', Bool.not_eq_false', Bool.and_eq_true, Bool.or_eq_true, Nat.not_lt, Nat.not_le, beq_iff_eq, bne_iff_ne] at c0
      refine TC.seq ?_
      refine TC.region ?_
      refine TL.val rfl rfl rfl (Y.buildS rfl rfl pl25 zc25 rfl) ?_
      refine TL.as (.agg zmsg) (by rfl) ?_
      refine TL.eff0 rfl rfl (by first | exact X.storeAll rfl sz25 (by rfl) rfl rfl (allOne (by rfl)) pul (by rfl) | exact X.storeAll rfl sz25 szz rfl rfl (by simp [Value.oneCell']) pul szz | exact X.storeAgg rfl sz25 szz rfl rfl (by simp [Value.oneCell']) pul szz (writeM (by ((try simp only [List.length_set, List.length_map, List.length_append, List.length_replicate]); omega)))) ?_
      rintro _ _ rfl
      refine TL.val rfl rfl rfl (Y.assign rfl rfl) ?_
      refine TL.nil ?_
      refine TQ.next ?_
      refine TC.ret ?_
      refine TQ.then_ret ?_
      refine TQ.retE (resL rfl (Res.agg rfl ag25 (Cels.all (cs := zmsg) inn) (by first | rfl | assumption | omega) (Res.tmp rfl Res.nil))) (⟨rfl, rfl⟩) ?_
      exact ett
    · try simp only [decide_eq_true_eq, decide_eq_false_iff_not, Bool.not_eq_true', Bool.not_eq_false', Bool.and_eq_true, Bool.or_eq_true, Nat.not_lt, Nat.not_le, beq_iff_eq, bne_iff_ne] at c0
      exfalso; omega --stop
theorem getD_pick {b p q : List UInt8} (h : b = p ++ q) {i : Nat} {x : UInt8} (hx : p[i]? = some x) : b.getD i 0 = x := by
  have hi : i < p.length := (List.getElem?_eq_some_iff.1 hx).1
  rw [h, List.getD_eq_getElem?_getD, List.getElem?_append_left hi, hx]; rfl
set_option maxHeartbeats 4000000 in
theorem refParse_ok (k0 k1 n0 n1 m0 m1 m2 m3 : UInt8) (f : Nat → UInt8) (rest : List UInt8) (a : Option Addr) (n cap : Nat) (b : List UInt8) (hb : b = [k0, k1, n0, n1, m0, m1, m2, m3] ++ (idL f ++ rest)) (hn : b.length = n) (hg5 : b.length ≤ 1500) (L : List SA) :
    Fn Try.prog 13 [.slice a n cap] (SA.rds 1 (.slice a n cap) n (b.map v8) :: L)
      (fun v L' => ∃ c m f' a' cap' l' e, v = .tuple #[.agg (msgC c m f' (.slice a' (l' : List At).length cap')), vN e] ∧ PR b c m f' (l'.map pl) e ∧ L' = SA.dat (⟨a', cap', l'⟩ : Sl At) :: SA.rds 1 (.slice a n cap) n (b.map v8) :: L) := by
  have hbl : b.length = 20 + rest.length := by rw [hb]; simp; omega
  have hk0 := k0.toNat_lt
  have hk1 := k1.toNat_lt
  have b0 : b.getD 0 0 = k0 := getD_pick hb rfl
  have b1 : b.getD 1 0 = k1 := getD_pick hb rfl
  have hid : (b.drop 8).take (20 - 8) = idL f := by rw [hb]; rfl
  have hrest : b.drop 20 = rest := by rw [hb]; rfl
  refine Fn.of (N := 139) Try.func13 rfl rfl ?_
  intro Xh
  refine TC.know (reads_cap Reads.rds (a := a) (n := n) (cap := cap) (cs := b.map v8) inn) ?_
  rintro ⟨hc1, hc2, -, -⟩
  simp only [maxLen] at hc2
  refine TC.know (reads_some Reads.rds (a := a) (n := n) (cap := cap) (cs := b.map v8) inn (by omega) (by decide)) ?_
  rintro ⟨g, off, rfl⟩
  refine TC.seq ?_
  refine TC.region ?_
  refine TL.eff rfl rfl rfl (X.alloc rfl zc25) ?_
  rintro _ _ ⟨b2, rfl, rfl⟩
  refine TL.val rfl rfl rfl (Y.assign rfl rfl) ?_
  refine TL.nil ?_
  refine TQ.next ?_
  refine TC.seq ?_
  refine TC.seq ?_
  refine TC.region ?_
  refine TL.val rfl rfl rfl (Y.move rfl rfl) ?_
  refine TL.val rfl rfl rfl (Y.len rfl Try.underlying27 rfl) ?_
  refine TL.val rfl rfl rfl (Y.bin rfl rfl rfl (br_ltN (n := 20))) ?_
  refine TL.is false (by first | rfl | (simp only [decide_eq_true_eq, decide_eq_false_iff_not, Bool.not_eq_true', Bool.not_eq_false', Bool.not_eq_eq_eq_not, Bool.not_true, Bool.not_false, Nat.not_lt, Nat.not_le]; omega) | (simp [*]; done) | (simp; omega)) ?_
  refine TL.val rfl rfl rfl (Y.move rfl rfl) ?_
  refine TL.valG rfl rfl rfl (Y.move rfl rfl) ?_
  refine TL.valG rfl rfl rfl (Y.len rfl Try.underlying27 rfl) ?_
  refine TL.valG rfl rfl rfl (Y.bin rfl rfl rfl (br_gtN (n := 1500))) ?_
  refine TL.is false (by first | rfl | (simp only [decide_eq_true_eq, decide_eq_false_iff_not, Bool.not_eq_true', Bool.not_eq_false', Bool.not_eq_eq_eq_not, Bool.not_true, Bool.not_false, Nat.not_lt, Nat.not_le]; omega) | (simp [*]; done) | (simp; omega)) ?_
  refine TL.val rfl rfl rfl (Y.pick_f rfl rfl rfl) ?_
  refine TL.nil ?_
  refine TQ.next ?_
  refine TC.cond_f rfl ?_
  refine TC.skip ?_
  refine TQ.next ?_
  refine TC.seq ?_
  refine TC.draws 11 _ (by kernel_rfl) (by kernel_rfl) (fun _ h => h) ?_
  refine TA.take 0 rfl rfl rfl rfl (by kernel_rfl) (by kernel_rfl) (by kernel_rfl) rfl (by kernel_rfl) (by kernel_rfl) (fun _ _ _ h => h) (Y.move rfl rfl) ?_
  refine TA.take 1 rfl rfl rfl rfl (by kernel_rfl) (by kernel_rfl) (by kernel_rfl) rfl (by kernel_rfl) (by kernel_rfl) (fun _ _ _ h => h) (by first | exact Y.indexSlB (j := 0) rfl sl27 rfl rfl (by omega) nqq | exact Y.indexSl (j := 0) rfl sl27 rfl rfl (by omega) nqq) ?_
  refine TA.take 2 rfl rfl rfl rfl (by kernel_rfl) (by kernel_rfl) (by kernel_rfl) rfl (by kernel_rfl) (by kernel_rfl) (fun _ _ _ h => h) (Y.load rfl sc5 rfl cel8) ?_
  refine TA.as (v8 k0) (by rw [b0]) ?_
  refine TA.take 3 rfl rfl rfl rfl (by kernel_rfl) (by kernel_rfl) (by kernel_rfl) rfl (by kernel_rfl) (by kernel_rfl) (fun _ _ _ h => h) (Y.conv rfl Try.underlying5 Try.underlying3 rfl (cv_8_N)) ?_
  refine TA.take 4 rfl rfl rfl rfl (by kernel_rfl) (by kernel_rfl) (by kernel_rfl) rfl (by kernel_rfl) (by kernel_rfl) (fun _ _ _ h => h) (Y.bin rfl rfl rfl (br_shlN (n := 8) (c := 256) rfl (by omega) (by omega))) ?_
  refine TA.take 5 rfl rfl rfl rfl (by kernel_rfl) (by kernel_rfl) (by kernel_rfl) rfl (by kernel_rfl) (by kernel_rfl) (fun _ _ _ h => h) (Y.move rfl rfl) ?_
  refine TA.take 6 rfl rfl rfl rfl (by kernel_rfl) (by kernel_rfl) (by kernel_rfl) rfl (by kernel_rfl) (by kernel_rfl) (fun _ _ _ h => h) (by first | exact Y.indexSlB (j := 1) rfl sl27 rfl rfl (by omega) nqq | exact Y.indexSl (j := 1) rfl sl27 rfl rfl (by omega) nqq) ?_
  refine TA.take 7 rfl rfl rfl rfl (by kernel_rfl) (by kernel_rfl) (by kernel_rfl) rfl (by kernel_rfl) (by kernel_rfl) (fun _ _ _ h => h) (Y.load rfl sc5 rfl cel8) ?_
  refine TA.as (v8 k1) (by rw [b1]) ?_
  refine TA.take 8 rfl rfl rfl rfl (by kernel_rfl) (by kernel_rfl) (by kernel_rfl) rfl (by kernel_rfl) (by kernel_rfl) (fun _ _ _ h => h) (Y.conv rfl Try.underlying5 Try.underlying3 rfl (cv_8_N)) ?_
  refine TA.take 9 rfl rfl rfl rfl (by kernel_rfl) (by kernel_rfl) (by kernel_rfl) rfl (by kernel_rfl) (by kernel_rfl) (fun _ _ _ h => h) (Y.bin rfl rfl rfl (br_orN (by omega) (by omega))) ?_
  refine TA.as (vN (k0.toNat * 256 + k1.toNat)) (by rw [or_add _ _ hk1]) ?_
  refine TA.take 10 rfl rfl rfl rfl (by kernel_rfl) (by kernel_rfl) (by kernel_rfl) rfl (by kernel_rfl) (by kernel_rfl) (fun _ _ _ h => h) (Y.assign rfl rfl) ?_
  refine TA.done (by kernel_rfl) ?_
  refine TQ.next ?_
  refine TC.seq ?_
  obtain ⟨k, hk⟩ : ∃ k, k = k0.toNat * 256 + k1.toNat := ⟨_, rfl⟩
  rw [← hk]
  have hkk : k < 65536 := by omega
  have q1 : k / 16 &&& 1 ≤ 1 := Nat.and_le_right
  have q2 : k / 256 &&& 1 ≤ 1 := Nat.and_le_right
  have q3 : k &&& 15 ≤ 15 := Nat.and_le_right
  have q4 : k / 32 &&& 7 ≤ 7 := Nat.and_le_right
  have q5 : k / 512 &&& 31 ≤ 31 := Nat.and_le_right
  have o1 : k &&& 15 ||| (k / 32 &&& 7) * 16 < 16384 := Nat.or_lt_two_pow (n := 14) (by omega) (by omega)
  refine TC.region ?_
  refine TL.val rfl rfl rfl (Y.move rfl rfl) ?_
  refine TL.val rfl rfl rfl (Y.bin rfl rfl rfl (br_shrN (n := 4) (c := 16) rfl (by omega))) ?_
  refine TL.val rfl rfl rfl (Y.bin rfl rfl rfl (br_andN (n := 1) (by omega) (by omega))) ?_
  refine TL.val rfl rfl rfl (Y.move rfl rfl) ?_
  refine TL.val rfl rfl rfl (Y.bin rfl rfl rfl (br_shrN (n := 8) (c := 256) rfl (by omega))) ?_
  refine TL.val rfl rfl rfl (Y.bin rfl rfl rfl (br_andN (n := 1) (by omega) (by omega))) ?_
  refine TL.val rfl rfl rfl (Y.bin rfl rfl rfl (br_shlN (n := 1) (c := 2) rfl (by omega) (by omega))) ?_
  refine TL.val rfl rfl rfl (Y.bin rfl rfl rfl (br_orN (by omega) (by omega))) ?_
  refine TL.val rfl rfl rfl (Y.move rfl rfl) ?_
  refine TL.val rfl rfl rfl (Y.bin rfl rfl rfl (br_andN (n := 15) (by omega) (by omega))) ?_
  refine TL.val rfl rfl rfl (Y.move rfl rfl) ?_
  refine TL.val rfl rfl rfl (Y.bin rfl rfl rfl (br_shrN (n := 5) (c := 32) rfl (by omega))) ?_
  refine TL.val rfl rfl rfl (Y.bin rfl rfl rfl (br_andN (n := 7) (by omega) (by omega))) ?_
  refine TL.val rfl rfl rfl (Y.bin rfl rfl rfl (br_shlN (n := 4) (c := 16) rfl (by omega) (by omega))) ?_
  refine TL.val rfl rfl rfl (Y.bin rfl rfl rfl (br_orN (by omega) (by omega))) ?_
  refine TL.val rfl rfl rfl (Y.move rfl rfl) ?_
  refine TL.val rfl rfl rfl (Y.bin rfl rfl rfl (br_shrN (n := 9) (c := 512) rfl (by omega))) ?_
  refine TL.val rfl rfl rfl (Y.bin rfl rfl rfl (br_andN (n := 31) (by omega) (by omega))) ?_
  refine TL.val rfl rfl rfl (Y.bin rfl rfl rfl (br_shlN (n := 7) (c := 128) rfl (by omega) (by omega))) ?_
  refine TL.val rfl rfl rfl (Y.bin rfl rfl rfl (br_orN (by omega) (by omega))) ?_
  refine TL.val rfl rfl rfl (Y.buildS (cells := msgC (clsR k) (mthR k) (fun _ => 0) (.slice none 0 0)) rfl rfl pl25 zc25 (by kernel_rfl)) ?_
  refine TL.eff rfl rfl rfl (X.alloc rfl zc25) ?_
  rintro _ _ ⟨b5, rfl, rfl⟩
  refine TL.eff0 rfl rfl (by first | exact X.storeAll rfl sz25 (by rfl) rfl rfl (allOne (by rfl)) pul (by rfl) | exact X.storeAll rfl sz25 szz rfl rfl (by simp [Value.oneCell']) pul szz | exact X.storeAgg rfl sz25 szz rfl rfl (by simp [Value.oneCell']) pul szz (writeM (by ((try simp only [List.length_set, List.length_map, List.length_append, List.length_replicate]); omega)))) ?_
  rintro _ _ rfl
  refine TL.nil ?_
  refine TQ.next ?_
  refine TC.seq ?_
  refine TC.draws 4 [SA.rds 1 (.slice (some ⟨g, off, none⟩) n cap) n (b.map v8)] (by kernel_rfl) (by kernel_rfl) (by repeat first | exact holds_nil | refine holds_cons inn ?_) ?_
  refine TA.takeP 0 rfl rfl rfl rfl (by kernel_rfl) (by kernel_rfl) (by kernel_rfl) rfl (fun _ _ _ h => h) (by first | exact Y.fieldAddrJ rfl fo25_2 rfl nqq | exact Y.fieldAddr rfl fo25_2 rfl nqq) ?_
  refine TA.take 1 rfl rfl rfl rfl (by kernel_rfl) (by kernel_rfl) (by kernel_rfl) rfl (by kernel_rfl) (by kernel_rfl) (fun _ _ _ h => h) (Y.sliceArr rfl Try.underlying22 sz5 rfl) ?_
  refine TA.takeP 2 rfl rfl rfl rfl (by kernel_rfl) (by kernel_rfl) (by kernel_rfl) rfl (fun _ _ _ h => h) (Y.move rfl rfl) ?_
  refine TA.take 3 rfl rfl rfl rfl (by kernel_rfl) (by kernel_rfl) (by kernel_rfl) rfl (by kernel_rfl) (by kernel_rfl) (fun _ _ _ h => h) (Y.sliceLH (k := 8) (h := 20) rfl Try.underlying27 sz5 rfl rfl rfl (by omega) (by omega)) ?_
  refine TA.one 4 (by kernel_rfl) rfl rfl rfl rfl (X.copyBlk (cs := msgC (clsR k) (mthR k) (fun _ => 0) (.slice none 0 0)) (cs' := msgC (clsR k) (mthR k) f (.slice none 0 0)) (news := ((b.drop 8).take (20 - 8)).map v8) (m := 20 - 8) (sz := 1) rfl Try.underlying27 (by kernel_rfl) rfl rfl (Src.cut8 Reads.rds Try.underlying27 inn (by omega) (by omega)) pul (by omega) (by simp [msgC]) (by rw [hid]; kernel_rfl)) ?_
  rintro _ _ ⟨rfl, rfl⟩
  refine ⟨(Or.inl (by kernel_rfl)), ?_⟩
  refine TA.done (by kernel_rfl) ?_
  refine TQ.next ?_
  refine TC.seq ?_
  refine TC.seq ?_
  refine TC.region ?_
  refine TL.val rfl rfl rfl (Y.assign rfl rfl) ?_
  refine TL.nil ?_
  refine TQ.next ?_
  refine TC.block ?_
  refine TC.to (Ent.nilOwn 65 2) ?_
  refine TC.to (Ent.rdss0) ?_
  refine TC.loopF (ι := Nat × Option Addr × Nat × List At) [3] (fun i => RI b rest i.1 (i.2.2.2.map pl)) (fun i => [(6, some (vN i.1))]) (fun i => [SA.blk b5 (msgC (clsR k) (mthR k) f (.slice i.2.1 i.2.2.2.length i.2.2.1)) 25, SA.owns 65 2 (.slice i.2.1 i.2.2.2.length i.2.2.1) i.2.2.2.length (Dat.cs i.2.2.2), SA.rdss (i.2.2.2.flatMap Dat.g)]) (fun i => n + 3 - i.1) ((20, none, 0, [])) (RI.start hrest (by omega)) ⟨rfl, trivial⟩ (Pulls.cons pul (Pulls.cons pul (Pulls.cons pul Pulls.nil))) ?_
  rintro ⟨p, ya, yc, xs⟩ hI F' L' rfl hL'
  simp only [List.cons_append, List.nil_append] at hL'
  subst hL'
  simp only at hI ⊢
  have hlo := hI.lo
  have hhi := hI.hi
  rw [List.length_map] at hlo
  refine TC.seq ?_
  refine TC.seq ?_
  refine TC.region ?_
  refine TL.val rfl rfl rfl (Y.move rfl rfl) ?_
  refine TL.val rfl rfl rfl (Y.move rfl rfl) ?_
  refine TL.val rfl rfl rfl (Y.len rfl Try.underlying27 rfl) ?_
  refine TL.val rfl rfl rfl (Y.bin rfl rfl rfl (br_ltN)) ?_
  refine TL.nil ?_
  refine TQ.next ?_
  refine TC.cond rfl (fun c1 => ?_) (fun c1 => ?_)
  · try simp only [decide_eq_true_eq, decide_eq_false_iff_not, Bool.not_eq_true', Bool.not_eq_false', Bool.and_eq_true, Bool.or_eq_true, Nat.not_lt, Nat.not_le, beq_iff_eq, bne_iff_ne] at c1
    refine TC.skip ?_
    refine TQ.next ?_
    refine TC.block ?_
    refine TC.seq ?_
    refine TC.seq ?_
    refine TC.region ?_
    refine TL.val rfl rfl rfl (Y.move rfl rfl) ?_
    refine TL.val rfl rfl rfl (Y.bin rfl rfl rfl (br_addN (n := 4) (by omega))) ?_
    refine TL.val rfl rfl rfl (Y.move rfl rfl) ?_
    refine TL.val rfl rfl rfl (Y.len rfl Try.underlying27 rfl) ?_
    refine TL.val rfl rfl rfl (Y.bin rfl rfl rfl (br_gtN)) ?_
    refine TL.nil ?_
    refine TQ.next ?_
    refine TC.cond rfl (fun c2 => ?_) (fun c2 => ?_)
    · try simp only [decide_eq_true_eq, decide_eq_false_iff_not, Bool.not_eq_true', Bool.not_eq_false', Bool.and_eq_true, Bool.or_eq_true, Nat.not_lt, Nat.not_le, beq_iff_eq, bne_iff_ne] at c2
      have hbadR := parse_none hb (hI.no4 (by omega) (by omega))
      refine TC.seq ?_
      refine TC.region ?_
      refine TL.val rfl rfl rfl (Y.buildS rfl rfl pl25 zc25 rfl) ?_
      refine TL.as (.agg zmsg) (by rfl) ?_
      refine TL.eff0 rfl rfl (by first | exact X.storeAll rfl sz25 (by rfl) rfl rfl (allOne (by rfl)) pul (by rfl) | exact X.storeAll rfl sz25 szz rfl rfl (by simp [Value.oneCell']) pul szz | exact X.storeAgg rfl sz25 szz rfl rfl (by simp [Value.oneCell']) pul szz (writeM (by ((try simp only [List.length_set, List.length_map, List.length_append, List.length_replicate]); omega)))) ?_
      rintro _ _ rfl
      refine TL.val rfl rfl rfl (Y.assign rfl rfl) ?_
      refine TL.nil ?_
      refine TQ.next ?_
      refine TC.ret ?_
      refine TQ.then_ret ?_
      refine TQ.block_ret ?_
      refine TQ.then_ret ?_
      refine TQ.block_ret ?_
      refine TQ.then_ret ?_
      refine TQ.retE (resL rfl (Res.agg rfl ag25 (by first | exact Cels.all (cs := zmsg) inn | exact Cels.all (cs := msgC (clsR k) (mthR k) f (.slice ya xs.length yc)) inn) (by first | rfl | assumption | omega) (Res.tmp rfl Res.nil))) ((by first | exact ⟨_, _, _, _, _, xs, 0, rfl, .inl ⟨rfl, hgoodR⟩, rfl⟩ | exact ⟨0, 0, fun _ => 0, none, 0, [], 2, rfl, .inr ⟨rfl, rfl, rfl, rfl, rfl, hbadR⟩, rfl⟩)) ?_
      exact (by first | (have _h := hgoodR; exact ett) | (have _h := hbadR; exact Ent.trans Ent.dat0 ett))
    · try simp only [decide_eq_true_eq, decide_eq_false_iff_not, Bool.not_eq_true', Bool.not_eq_false', Bool.and_eq_true, Bool.or_eq_true, Nat.not_lt, Nat.not_le, beq_iff_eq, bne_iff_ne] at c2
      refine TC.skip ?_
      refine TQ.next ?_
      refine TC.seq ?_
      have hby := (b.getD (p + 2) 0).toNat_lt
      have hby3 := (b.getD (p + 3) 0).toNat_lt
      refine TC.draws 15 _ (by kernel_rfl) (by kernel_rfl) (fun _ h => h) ?_
      refine TA.take 0 rfl rfl rfl rfl (by kernel_rfl) (by kernel_rfl) (by kernel_rfl) rfl (by kernel_rfl) (by kernel_rfl) (fun _ _ _ h => h) (Y.move rfl rfl) ?_
      refine TA.take 1 rfl rfl rfl rfl (by kernel_rfl) (by kernel_rfl) (by kernel_rfl) rfl (by kernel_rfl) (by kernel_rfl) (fun _ _ _ h => h) (Y.move rfl rfl) ?_
      refine TA.take 2 rfl rfl rfl rfl (by kernel_rfl) (by kernel_rfl) (by kernel_rfl) rfl (by kernel_rfl) (by kernel_rfl) (fun _ _ _ h => h) (Y.bin rfl rfl rfl (br_addN (n := 2) (by omega))) ?_
      refine TA.take 3 rfl rfl rfl rfl (by kernel_rfl) (by kernel_rfl) (by kernel_rfl) rfl (by kernel_rfl) (by kernel_rfl) (fun _ _ _ h => h) (by first | exact Y.indexSlB rfl sl27 rfl rfl (by omega) nqq | exact Y.indexSl rfl sl27 rfl rfl (by omega) nqq) ?_
      refine TA.take 4 rfl rfl rfl rfl (by kernel_rfl) (by kernel_rfl) (by kernel_rfl) rfl (by kernel_rfl) (by kernel_rfl) (fun _ _ _ h => h) (Y.load rfl sc5 rfl cel8) ?_
      refine TA.take 5 rfl rfl rfl rfl (by kernel_rfl) (by kernel_rfl) (by kernel_rfl) rfl (by kernel_rfl) (by kernel_rfl) (fun _ _ _ h => h) (Y.conv rfl Try.underlying5 Try.underlying3 rfl (cv_8_N)) ?_
      refine TA.take 6 rfl rfl rfl rfl (by kernel_rfl) (by kernel_rfl) (by kernel_rfl) rfl (by kernel_rfl) (by kernel_rfl) (fun _ _ _ h => h) (Y.bin rfl rfl rfl (br_shlN (n := 8) (c := 256) rfl (by omega) (by omega))) ?_
      refine TA.take 7 rfl rfl rfl rfl (by kernel_rfl) (by kernel_rfl) (by kernel_rfl) rfl (by kernel_rfl) (by kernel_rfl) (fun _ _ _ h => h) (Y.move rfl rfl) ?_
      refine TA.take 8 rfl rfl rfl rfl (by kernel_rfl) (by kernel_rfl) (by kernel_rfl) rfl (by kernel_rfl) (by kernel_rfl) (fun _ _ _ h => h) (Y.move rfl rfl) ?_
      refine TA.take 9 rfl rfl rfl rfl (by kernel_rfl) (by kernel_rfl) (by kernel_rfl) rfl (by kernel_rfl) (by kernel_rfl) (fun _ _ _ h => h) (Y.bin rfl rfl rfl (br_addN (n := 3) (by omega))) ?_
      refine TA.take 10 rfl rfl rfl rfl (by kernel_rfl) (by kernel_rfl) (by kernel_rfl) rfl (by kernel_rfl) (by kernel_rfl) (fun _ _ _ h => h) (by first | exact Y.indexSlB rfl sl27 rfl rfl (by omega) nqq | exact Y.indexSl rfl sl27 rfl rfl (by omega) nqq) ?_
      refine TA.take 11 rfl rfl rfl rfl (by kernel_rfl) (by kernel_rfl) (by kernel_rfl) rfl (by kernel_rfl) (by kernel_rfl) (fun _ _ _ h => h) (Y.load rfl sc5 rfl cel8) ?_
      refine TA.take 12 rfl rfl rfl rfl (by kernel_rfl) (by kernel_rfl) (by kernel_rfl) rfl (by kernel_rfl) (by kernel_rfl) (fun _ _ _ h => h) (Y.conv rfl Try.underlying5 Try.underlying3 rfl (cv_8_N)) ?_
      refine TA.take 13 rfl rfl rfl rfl (by kernel_rfl) (by kernel_rfl) (by kernel_rfl) rfl (by kernel_rfl) (by kernel_rfl) (fun _ _ _ h => h) (Y.bin rfl rfl rfl (br_orN (by omega) (by omega))) ?_
      refine TA.as (vN (at2 b (p + 2))) (by rw [or_add _ _ (UInt8.toNat_lt _)]; rfl) ?_
      refine TA.take 14 rfl rfl rfl rfl (by kernel_rfl) (by kernel_rfl) (by kernel_rfl) rfl (by kernel_rfl) (by kernel_rfl) (fun _ _ _ h => h) (Y.assign rfl rfl) ?_
      refine TA.done (by kernel_rfl) ?_
      refine TQ.next ?_
      refine TC.seq ?_
      refine TC.seq ?_
      obtain ⟨m, hm⟩ : ∃ m, m = at2 b (p + 2) := ⟨_, rfl⟩
      have hml := at2_lt b (p + 2)
      rw [← hm]
      rw [← hm] at hml
      refine TC.region ?_
      refine TL.val rfl rfl rfl (Y.move rfl rfl) ?_
      refine TL.val rfl rfl rfl (Y.bin rfl rfl rfl (br_addN (n := 4) (by omega))) ?_
      refine TL.val rfl rfl rfl (Y.move rfl rfl) ?_
      refine TL.val rfl rfl rfl (Y.bin rfl rfl rfl (br_addN (by omega))) ?_
      refine TL.val rfl rfl rfl (Y.move rfl rfl) ?_
      refine TL.val rfl rfl rfl (Y.len rfl Try.underlying27 rfl) ?_
      refine TL.val rfl rfl rfl (Y.bin rfl rfl rfl (br_gtN)) ?_
      refine TL.nil ?_
      refine TQ.next ?_
      refine TC.cond rfl (fun c3 => ?_) (fun c3 => ?_)
      · try simp only [decide_eq_true_eq, decide_eq_false_iff_not, Bool.not_eq_true', Bool.not_eq_false', Bool.and_eq_true, Bool.or_eq_true, Nat.not_lt, Nat.not_le, beq_iff_eq, bne_iff_ne] at c3
        have hbadR := parse_none hb (hI.noV (by omega) hm (by omega))
        refine TC.seq ?_
        refine TC.region ?_
        refine TL.val rfl rfl rfl (Y.buildS rfl rfl pl25 zc25 rfl) ?_
        refine TL.as (.agg zmsg) (by rfl) ?_
        refine TL.eff0 rfl rfl (by first | exact X.storeAll rfl sz25 (by rfl) rfl rfl (allOne (by rfl)) pul (by rfl) | exact X.storeAll rfl sz25 szz rfl rfl (by simp [Value.oneCell']) pul szz | exact X.storeAgg rfl sz25 szz rfl rfl (by simp [Value.oneCell']) pul szz (writeM (by ((try simp only [List.length_set, List.length_map, List.length_append, List.length_replicate]); omega)))) ?_
        rintro _ _ rfl
        refine TL.val rfl rfl rfl (Y.assign rfl rfl) ?_
        refine TL.nil ?_
        refine TQ.next ?_
        refine TC.ret ?_
        refine TQ.then_ret ?_
        refine TQ.block_ret ?_
        refine TQ.then_ret ?_
        refine TQ.block_ret ?_
        refine TQ.then_ret ?_
        refine TQ.retE (resL rfl (Res.agg rfl ag25 (by first | exact Cels.all (cs := zmsg) inn | exact Cels.all (cs := msgC (clsR k) (mthR k) f (.slice ya xs.length yc)) inn) (by first | rfl | assumption | omega) (Res.tmp rfl Res.nil))) ((by first | exact ⟨_, _, _, _, _, xs, 0, rfl, .inl ⟨rfl, hgoodR⟩, rfl⟩ | exact ⟨0, 0, fun _ => 0, none, 0, [], 2, rfl, .inr ⟨rfl, rfl, rfl, rfl, rfl, hbadR⟩, rfl⟩)) ?_
        exact (by first | (have _h := hgoodR; exact ett) | (have _h := hbadR; exact Ent.trans Ent.dat0 ett))
      · try simp only [decide_eq_true_eq, decide_eq_false_iff_not, Bool.not_eq_true', Bool.not_eq_false', Bool.and_eq_true, Bool.or_eq_true, Nat.not_lt, Nat.not_le, beq_iff_eq, bne_iff_ne] at c3
        refine TC.skip ?_
        refine TQ.next ?_
        refine TC.seq ?_
        refine TC.draws 29 [SA.blk b5 (msgC (clsR k) (mthR k) f (.slice ya xs.length yc)) 25, SA.rds 1 (.slice (some ⟨g, off, none⟩) n cap) n (b.map v8)] (by kernel_rfl) (by kernel_rfl) (by repeat first | exact holds_nil | refine holds_cons inn ?_) ?_
        refine TA.take 0 rfl rfl rfl rfl (by kernel_rfl) (by kernel_rfl) (by kernel_rfl) rfl (by kernel_rfl) (by kernel_rfl) (fun _ _ _ h => h) (by first | exact Y.fieldAddrJ rfl fo25_3 rfl nqq | exact Y.fieldAddr rfl fo25_3 rfl nqq) ?_
        refine TA.take 1 rfl rfl rfl rfl (by kernel_rfl) (by kernel_rfl) (by kernel_rfl) rfl (by kernel_rfl) (by kernel_rfl) (fun _ _ _ h => h) (Y.load rfl sc23 rfl celD) ?_
        refine TA.take 2 rfl rfl rfl rfl (by kernel_rfl) (by kernel_rfl) (by kernel_rfl) rfl (by kernel_rfl) (by kernel_rfl) (fun _ _ _ h => h) (Y.move rfl rfl) ?_
        refine TA.take 3 rfl rfl rfl rfl (by kernel_rfl) (by kernel_rfl) (by kernel_rfl) rfl (by kernel_rfl) (by kernel_rfl) (fun _ _ _ h => h) (Y.move rfl rfl) ?_
        refine TA.take 4 rfl rfl rfl rfl (by kernel_rfl) (by kernel_rfl) (by kernel_rfl) rfl (by kernel_rfl) (by kernel_rfl) (fun _ _ _ h => h) (by first | exact Y.indexSlB rfl sl27 rfl rfl (by omega) nqq | exact Y.indexSl rfl sl27 rfl rfl (by omega) nqq) ?_
        refine TA.take 5 rfl rfl rfl rfl (by kernel_rfl) (by kernel_rfl) (by kernel_rfl) rfl (by kernel_rfl) (by kernel_rfl) (fun _ _ _ h => h) (Y.load rfl sc5 rfl cel8) ?_
        refine TA.take 6 rfl rfl rfl rfl (by kernel_rfl) (by kernel_rfl) (by kernel_rfl) rfl (by kernel_rfl) (by kernel_rfl) (fun _ _ _ h => h) (Y.conv rfl Try.underlying5 Try.underlying44 rfl (cv_8_16)) ?_
        refine TA.take 7 rfl rfl rfl rfl (by kernel_rfl) (by kernel_rfl) (by kernel_rfl) rfl (by kernel_rfl) (by kernel_rfl) (fun _ _ _ h => h) (Y.bin rfl rfl rfl (br_shl16 (n := 8))) ?_
        refine TA.take 8 rfl rfl rfl rfl (by kernel_rfl) (by kernel_rfl) (by kernel_rfl) rfl (by kernel_rfl) (by kernel_rfl) (fun _ _ _ h => h) (Y.move rfl rfl) ?_
        refine TA.take 9 rfl rfl rfl rfl (by kernel_rfl) (by kernel_rfl) (by kernel_rfl) rfl (by kernel_rfl) (by kernel_rfl) (fun _ _ _ h => h) (Y.move rfl rfl) ?_
        refine TA.take 10 rfl rfl rfl rfl (by kernel_rfl) (by kernel_rfl) (by kernel_rfl) rfl (by kernel_rfl) (by kernel_rfl) (fun _ _ _ h => h) (Y.bin rfl rfl rfl (br_addN (n := 1) (by omega))) ?_
        refine TA.take 11 rfl rfl rfl rfl (by kernel_rfl) (by kernel_rfl) (by kernel_rfl) rfl (by kernel_rfl) (by kernel_rfl) (fun _ _ _ h => h) (by first | exact Y.indexSlB rfl sl27 rfl rfl (by omega) nqq | exact Y.indexSl rfl sl27 rfl rfl (by omega) nqq) ?_
        refine TA.take 12 rfl rfl rfl rfl (by kernel_rfl) (by kernel_rfl) (by kernel_rfl) rfl (by kernel_rfl) (by kernel_rfl) (fun _ _ _ h => h) (Y.load rfl sc5 rfl cel8) ?_
        refine TA.take 13 rfl rfl rfl rfl (by kernel_rfl) (by kernel_rfl) (by kernel_rfl) rfl (by kernel_rfl) (by kernel_rfl) (fun _ _ _ h => h) (Y.conv rfl Try.underlying5 Try.underlying44 rfl (cv_8_16)) ?_
        refine TA.take 14 rfl rfl rfl rfl (by kernel_rfl) (by kernel_rfl) (by kernel_rfl) rfl (by kernel_rfl) (by kernel_rfl) (fun _ _ _ h => h) (Y.bin rfl rfl rfl (br_or16)) ?_
        refine TA.take 16 rfl rfl rfl rfl (by kernel_rfl) (by kernel_rfl) (by kernel_rfl) rfl (by kernel_rfl) (by kernel_rfl) (fun _ _ _ h => h) (Y.move rfl rfl) ?_
        refine TA.take 17 rfl rfl rfl rfl (by kernel_rfl) (by kernel_rfl) (by kernel_rfl) rfl (by kernel_rfl) (by kernel_rfl) (fun _ _ _ h => h) (Y.move rfl rfl) ?_
        refine TA.take 18 rfl rfl rfl rfl (by kernel_rfl) (by kernel_rfl) (by kernel_rfl) rfl (by kernel_rfl) (by kernel_rfl) (fun _ _ _ h => h) (Y.bin rfl rfl rfl (br_addN (n := 4) (by omega))) ?_
        refine TA.take 19 rfl rfl rfl rfl (by kernel_rfl) (by kernel_rfl) (by kernel_rfl) rfl (by kernel_rfl) (by kernel_rfl) (fun _ _ _ h => h) (Y.move rfl rfl) ?_
        refine TA.take 20 rfl rfl rfl rfl (by kernel_rfl) (by kernel_rfl) (by kernel_rfl) rfl (by kernel_rfl) (by kernel_rfl) (fun _ _ _ h => h) (Y.bin rfl rfl rfl (br_addN (n := 4) (by omega))) ?_
        refine TA.take 21 rfl rfl rfl rfl (by kernel_rfl) (by kernel_rfl) (by kernel_rfl) rfl (by kernel_rfl) (by kernel_rfl) (fun _ _ _ h => h) (Y.move rfl rfl) ?_
        refine TA.take 22 rfl rfl rfl rfl (by kernel_rfl) (by kernel_rfl) (by kernel_rfl) rfl (by kernel_rfl) (by kernel_rfl) (fun _ _ _ h => h) (Y.bin rfl rfl rfl (br_addN (by omega))) ?_
        refine TA.take 23 rfl rfl rfl rfl (by kernel_rfl) (by kernel_rfl) (by kernel_rfl) rfl (by kernel_rfl) (by kernel_rfl) (fun _ _ _ h => h) (Y.sliceLH rfl Try.underlying27 sz5 rfl rfl rfl (by omega) (by omega)) ?_
        refine TA.one 15 (by kernel_rfl) rfl rfl rfl rfl (X.lit rfl el27 rfl rfl rfl (by decide) rfl) ?_
        rintro _ _ ⟨g102, rfl, rfl⟩
        refine ⟨(Or.inr (by repeat first | exact holds_nil | refine holds_cons inn ?_)), ?_⟩
        refine TA.one 24 (by kernel_rfl) rfl rfl rfl rfl (X.appendS rfl el27 rfl pul rfl (Src.cut8 Reads.rds Try.underlying27 inn (by omega) (by omega)) (by simp only [maxLen]; omega) (by omega)) ?_
        rintro _ _ ⟨a111, c111, rfl, rfl⟩
        simp only [Nat.zero_add, List.nil_append]
        obtain ⟨t, ht⟩ : ∃ t, t = shl16 (b.getD p 0).toUInt16 8 ||| (b.getD (p + 1) 0).toUInt16 := ⟨_, rfl⟩
        obtain ⟨v, hv⟩ : ∃ v, v = (b.drop (p + 4)).take (p + 4 + m - (p + 4)) := ⟨_, rfl⟩
        have hvl : p + 4 + m - (p + 4) = v.length := by rw [hv, List.length_take, List.length_drop]; omega
        rw [← hv, hvl, ← ht]
        rw [show p + 4 + m - (p + 4) = m by omega] at hv hvl
        refine ⟨(Or.inr (by repeat first | exact holds_nil | refine holds_cons inn ?_)), ?_⟩
        refine TA.take 25 rfl rfl rfl rfl (by kernel_rfl) (by kernel_rfl) (by kernel_rfl) rfl (by kernel_rfl) (by kernel_rfl) (fun _ _ _ h => h) (Y.buildS (cells := #[v16 t, .slice a111 v.length c111]) rfl rfl pl65 zc65 (by kernel_rfl)) ?_
        refine TA.one 26 (by kernel_rfl) rfl rfl rfl rfl (X.litA (bytes := 0) (z := .nilFunc) rfl Try.underlying23 zs65 rfl rfl rfl (by decide) (by decide) (by decide) rfl (cells := [v16 t, .slice a111 v.length c111]) rfl rfl) ?_
        rintro _ _ ⟨g113, rfl, rfl⟩
        refine ⟨(Or.inr (by repeat first | exact holds_nil | refine holds_cons inn ?_)), ?_⟩
        refine TA.one 27 (by kernel_rfl) rfl rfl rfl rfl (X.appendS rfl el23 rfl pul rfl (by first | exact Src.owns Try.underlying23 inn | exact Src.rds Try.underlying23 inn | exact Src.reads (by assumption) Try.underlying23 inn) (by simp only [maxLen]; omega) (by omega)) ?_
        rintro _ _ ⟨a114, c114, rfl, rfl⟩
        rw [show Dat.cs xs ++ [v16 t, .slice a111 v.length c111] = Dat.cs (xs ++ [((t, ⟨a111, c111, v⟩) : At)]) from (Dat.cs_app xs [((t, ⟨a111, c111, v⟩) : At)]).symm, show xs.length + 1 = (xs ++ [((t, ⟨a111, c111, v⟩) : At)]).length by simp]
        refine ⟨(Or.inr (by repeat first | exact holds_nil | refine holds_cons inn ?_)), ?_⟩
        refine TA.take 28 rfl rfl rfl rfl (by kernel_rfl) (by kernel_rfl) (by kernel_rfl) rfl (by kernel_rfl) (by kernel_rfl) (fun _ _ _ h => h) (by first | exact Y.fieldAddrJ rfl fo25_3 rfl nqq | exact Y.fieldAddr rfl fo25_3 rfl nqq) ?_
        refine TA.one0 29 (by kernel_rfl) rfl rfl rfl (X.store rfl (by kernel_rfl) rfl rfl rfl pul (by rw [msgC_size]; omega) rfl) ?_
        rintro _ _ rfl
        rw [show (msgC (clsR k) (mthR k) f (.slice ya xs.length yc)).setIfInBounds 14 (.slice a114 (xs ++ [((t, ⟨a111, c111, v⟩) : At)]).length c114) = msgC (clsR k) (mthR k) f (.slice a114 (xs ++ [((t, ⟨a111, c111, v⟩) : At)]).length c114) from rfl]
        refine ⟨(Or.inl (by kernel_rfl)), ?_⟩
        refine TA.done (by kernel_rfl) ?_
        refine TQ.next ?_
        refine TC.region ?_
        refine TL.val rfl rfl rfl (Y.move rfl rfl) ?_
        refine TL.val rfl rfl rfl (Y.bin rfl rfl rfl (br_addN (n := 4) (by omega))) ?_
        refine TL.val rfl rfl rfl (Y.move rfl rfl) ?_
        refine TL.val rfl rfl rfl (Y.bin rfl rfl rfl (br_addN (n := 3) (by omega))) ?_
        refine TL.val rfl rfl rfl (Y.bin rfl rfl rfl (br_quoN (n := 4) (by omega) (by omega))) ?_
        refine TL.val rfl rfl rfl (Y.bin rfl rfl rfl (br_mulN (n := 4) (by omega))) ?_
        refine TL.val rfl rfl rfl (Y.bin rfl rfl rfl (br_addN (by omega))) ?_
        refine TL.val rfl rfl rfl (Y.assign rfl rfl) ?_
        refine TL.nil ?_
        refine TQ.block_normal ?_
        refine TQ.to ((Ent.mkAt (t := t) (a := a111) pul rfl).trans (Ent.addEl pul pul)) ?_
        have hI' := hI.step (t := t) (by omega) (by rw [ht]; exact shl_or16 _ _) hm hv (by omega)
        refine TQ.loopF ((p + 4 + (m + 3) / 4 * 4, a114, c114, xs ++ [(t, ⟨a111, c111, v⟩)])) ((by rw [List.map_append]; exact hI')) ((by simp only; omega)) ⟨rfl, trivial⟩ (by (repeat first | apply Grow.refl | apply Grow.step | apply Grow.app)) ?_ ?_ ?_
        · kernel_rfl
        · rfl
        · simp only [List.cons_append, List.nil_append]
          exact ett
  · try simp only [decide_eq_true_eq, decide_eq_false_iff_not, Bool.not_eq_true', Bool.not_eq_false', Bool.and_eq_true, Bool.or_eq_true, Nat.not_lt, Nat.not_le, beq_iff_eq, bne_iff_ne] at c1
    refine TC.exit ?_
    refine TQ.then_exit ?_
    refine TQ.then_exit ?_
    refine TQ.block_exit ?_
    refine TQ.next ?_
    refine TC.seq ?_
    refine TC.region ?_
    refine TL.val rfl rfl rfl (Y.loadAgg rfl ag25 rfl (Cels.all (cs := msgC (clsR k) (mthR k) f (.slice ya xs.length yc)) inn) (by first | rfl | ((try simp only [List.length_map, List.length_set, List.length_replicate]); omega))) ?_
    refine TL.as (.agg (msgC (clsR k) (mthR k) f (.slice ya xs.length yc))) (by rfl) ?_
    refine TL.to (Ent.mkOwn (a := ya) (l := xs) pul pul rfl rfl rfl) ?_
    refine TL.eff rfl rfl rfl (X.call rfl Try.func10 (by kernel_rfl) rfl rfl (Fn.preE (by repeat first | (with_reducible apply Ent.refl) | (apply Ent.cons; case h => first | (with_reducible (repeat first | apply Pull.here | apply Pull.there); done) | (repeat first | apply Pull.here | apply Pull.there))) (refBuild_fn (clsR k) (mthR k) f ya yc xs _))) ?_
    rintro _ _ ⟨a125, c125, rfl, rfl⟩
    obtain ⟨o, ho⟩ : ∃ o, o = (SM (clsR k) (mthR k) f ⟨ya, yc, xs⟩).build := ⟨_, rfl⟩
    have key : o ≠ some b → ∀ x : SMsg, x.id.length = 12 → x.build ≠ some b := fun hne x hx e => by have := hI.only hb hk (by omega) x hx e; subst this; exact hne (ho.trans e)
    rw [← ho]
    refine TL.val rfl rfl rfl (Y.move rfl rfl) ?_
    refine TL.val rfl rfl rfl (Y.extract rfl rfl rfl) ?_
    refine TL.val rfl rfl rfl (Y.extract rfl rfl rfl) ?_
    refine TL.val rfl rfl rfl (Y.assign rfl rfl) ?_
    refine TL.val rfl rfl rfl (Y.assign rfl rfl) ?_
    refine TL.nil ?_
    refine TQ.next ?_
    refine TC.seq ?_
    refine TC.seq ?_
    refine TC.region ?_
    refine TL.val rfl rfl rfl (Y.move rfl rfl) ?_
    refine TL.val rfl rfl rfl (Y.bin rfl rfl rfl (br_neN (n := 0))) ?_
    refine TL.val rfl rfl rfl (Y.move rfl rfl) ?_
    refine TL.case (fun g16_2 => ?_) (fun g16_2 => ?_)
    · try simp only [decide_eq_true_eq, decide_eq_false_iff_not, Bool.not_eq_true', Bool.not_eq_false', Nat.not_lt, Nat.not_le, beq_iff_eq, bne_iff_ne] at g16_2
      refine TL.not rfl rfl rfl ?_
      refine TL.not rfl rfl rfl ?_
      refine TL.not rfl rfl rfl ?_
      refine TL.not rfl rfl rfl ?_
      refine TL.not rfl rfl rfl ?_
      refine TL.val rfl rfl rfl (Y.pick_t rfl rfl rfl) ?_
      refine TL.nil ?_
      refine TQ.next ?_
      refine TC.cond_t rfl ?_
      refine TC.seq ?_
      have hbadR : ∀ x : SMsg, x.id.length = 12 → x.build ≠ some b := by first | exact key (oe_no g16_2) | exact key (ob_no c4)
      refine TC.region ?_
      refine TL.val rfl rfl rfl (Y.buildS rfl rfl pl25 zc25 rfl) ?_
      refine TL.as (.agg zmsg) (by rfl) ?_
      refine TL.eff0 rfl rfl (by first | exact X.storeAll rfl sz25 (by rfl) rfl rfl (allOne (by rfl)) pul (by rfl) | exact X.storeAll rfl sz25 szz rfl rfl (by simp [Value.oneCell']) pul szz | exact X.storeAgg rfl sz25 szz rfl rfl (by simp [Value.oneCell']) pul szz (writeM (by ((try simp only [List.length_set, List.length_map, List.length_append, List.length_replicate]); omega)))) ?_
      rintro _ _ rfl
      refine TL.val rfl rfl rfl (Y.assign rfl rfl) ?_
      refine TL.nil ?_
      refine TQ.next ?_
      refine TC.ret ?_
      refine TQ.then_ret ?_
      refine TQ.retE (resL rfl (Res.agg rfl ag25 (by first | exact Cels.all (cs := zmsg) inn | exact Cels.all (cs := msgC (clsR k) (mthR k) f (.slice ya xs.length yc)) inn) (by first | rfl | assumption | omega) (Res.tmp rfl Res.nil))) ((by first | exact ⟨_, _, _, _, _, xs, 0, rfl, .inl ⟨rfl, hgoodR⟩, rfl⟩ | exact ⟨0, 0, fun _ => 0, none, 0, [], 2, rfl, .inr ⟨rfl, rfl, rfl, rfl, rfl, hbadR⟩, rfl⟩)) ?_
      exact (by first | (have _h := hgoodR; exact ett) | (have _h := hbadR; exact Ent.trans Ent.dat0 ett))
    · try simp only [decide_eq_true_eq, decide_eq_false_iff_not, Bool.not_eq_true', Bool.not_eq_false', Nat.not_lt, Nat.not_le, beq_iff_eq, bne_iff_ne] at g16_2
      refine TL.valG rfl rfl rfl (Y.move rfl rfl) ?_
      refine TL.valG rfl rfl rfl (by first | exact Y.str rfl Try.underlying27 Try.underlying9 Try.underlying5 rfl Reads.rds inn | exact Y.str rfl Try.underlying27 Try.underlying9 Try.underlying5 rfl Reads.owns inn | exact Y.str rfl Try.underlying27 Try.underlying9 Try.underlying5 rfl (by assumption) inn) ?_
      refine TL.valG rfl rfl rfl (Y.move rfl rfl) ?_
      refine TL.valG rfl rfl rfl (by first | exact Y.str rfl Try.underlying27 Try.underlying9 Try.underlying5 rfl Reads.rds inn | exact Y.str rfl Try.underlying27 Try.underlying9 Try.underlying5 rfl Reads.owns inn | exact Y.str rfl Try.underlying27 Try.underlying9 Try.underlying5 rfl (by assumption) inn) ?_
      refine TL.valG rfl rfl rfl (Y.neStr rfl rfl rfl) ?_
      refine TL.val rfl rfl rfl (Y.pick_f rfl rfl rfl) ?_
      refine TL.nil ?_
      refine TQ.next ?_
      refine TC.cond rfl (fun c4 => ?_) (fun c4 => ?_)
      · try simp only [decide_eq_true_eq, decide_eq_false_iff_not, Bool.not_eq_true', Bool.not_eq_false', Bool.and_eq_true, Bool.or_eq_true, Nat.not_lt, Nat.not_le, beq_iff_eq, bne_iff_ne] at c4
        refine TC.seq ?_
        have hbadR : ∀ x : SMsg, x.id.length = 12 → x.build ≠ some b := by first | exact key (oe_no g16_2) | exact key (ob_no c4)
        refine TC.region ?_
        refine TL.val rfl rfl rfl (Y.buildS rfl rfl pl25 zc25 rfl) ?_
        refine TL.as (.agg zmsg) (by rfl) ?_
        refine TL.eff0 rfl rfl (by first | exact X.storeAll rfl sz25 (by rfl) rfl rfl (allOne (by rfl)) pul (by rfl) | exact X.storeAll rfl sz25 szz rfl rfl (by simp [Value.oneCell']) pul szz | exact X.storeAgg rfl sz25 szz rfl rfl (by simp [Value.oneCell']) pul szz (writeM (by ((try simp only [List.length_set, List.length_map, List.length_append, List.length_replicate]); omega)))) ?_
        rintro _ _ rfl
        refine TL.val rfl rfl rfl (Y.assign rfl rfl) ?_
        refine TL.nil ?_
        refine TQ.next ?_
        refine TC.ret ?_
        refine TQ.then_ret ?_
        refine TQ.retE (resL rfl (Res.agg rfl ag25 (by first | exact Cels.all (cs := zmsg) inn | exact Cels.all (cs := msgC (clsR k) (mthR k) f (.slice ya xs.length yc)) inn) (by first | rfl | assumption | omega) (Res.tmp rfl Res.nil))) ((by first | exact ⟨_, _, _, _, _, xs, 0, rfl, .inl ⟨rfl, hgoodR⟩, rfl⟩ | exact ⟨0, 0, fun _ => 0, none, 0, [], 2, rfl, .inr ⟨rfl, rfl, rfl, rfl, rfl, hbadR⟩, rfl⟩)) ?_
        exact (by first | (have _h := hgoodR; exact ett) | (have _h := hbadR; exact Ent.trans Ent.dat0 ett))
      · try simp only [decide_eq_true_eq, decide_eq_false_iff_not, Bool.not_eq_true', Bool.not_eq_false', Bool.and_eq_true, Bool.or_eq_true, Nat.not_lt, Nat.not_le, beq_iff_eq, bne_iff_ne] at c4
        refine TC.skip ?_
        refine TQ.next ?_
        refine TC.seq ?_
        have hgoodR : (⟨clsR k, mthR k, idL f, xs.map pl⟩ : SMsg).build = some b := ho.symm.trans (ob_yes g16_2 c4)
        refine TC.region ?_
        refine TL.val rfl rfl rfl (Y.loadAgg rfl ag25 rfl (Cels.all (cs := msgC (clsR k) (mthR k) f (.slice ya xs.length yc)) inn) (by first | rfl | ((try simp only [List.length_map, List.length_set, List.length_replicate]); omega))) ?_
        refine TL.as (.agg (msgC (clsR k) (mthR k) f (.slice ya xs.length yc))) (by rfl) ?_
        refine TL.eff0 rfl rfl (X.storeAll rfl (by kernel_rfl) (msgC_size _ _ f _) rfl rfl (msg_one _ _ f _ _ _) pul rfl) ?_
        rintro _ _ rfl
        refine TL.val rfl rfl rfl (Y.assign rfl rfl) ?_
        refine TL.nil ?_
        refine TQ.next ?_
        refine TC.ret ?_
        refine TQ.retE (resL rfl (Res.agg rfl ag25 (by first | exact Cels.all (cs := zmsg) inn | exact Cels.all (cs := msgC (clsR k) (mthR k) f (.slice ya xs.length yc)) inn) (by first | rfl | assumption | omega) (Res.tmp rfl Res.nil))) ((by first | exact ⟨_, _, _, _, _, xs, 0, rfl, .inl ⟨rfl, hgoodR⟩, rfl⟩ | exact ⟨0, 0, fun _ => 0, none, 0, [], 2, rfl, .inr ⟨rfl, rfl, rfl, rfl, rfl, hbadR⟩, rfl⟩)) ?_
        exact (by first | (have _h := hgoodR; exact ett) | (have _h := hbadR; exact Ent.trans Ent.dat0 ett))
--REG rostrum/rostrumref04.Parse : _ _ ⟨pc{d}, pm{d}, pf{d}, pa{d}, pcap{d}, pl{d}, pe{d}, rfl, hP{d}, rfl⟩ => (stun.refParse_fn _ _ _ _ (by first | assumption | rfl) (by omega) _)
theorem refParse_fn (a : Option Addr) (n cap : Nat) (b : List UInt8) (hn : b.length = n) (hr : n ≤ 140737488351232) (L : List SA) :
    Fn Try.prog 13 [.slice a n cap] (SA.rds 1 (.slice a n cap) n (b.map v8) :: L)
      (fun v L' => ∃ c m f' a' cap' l' e, v = .tuple #[.agg (msgC c m f' (.slice a' (l' : List At).length cap')), vN e] ∧ PR b c m f' (l'.map pl) e ∧ L' = SA.dat (⟨a', cap', l'⟩ : Sl At) :: SA.rds 1 (.slice a n cap) n (b.map v8) :: L) := by
  by_cases hs : b.length < 20 ∨ 1500 < b.length
  · refine (refParse_len a n cap b hn hs L).mono fun v L' ⟨hv, hL⟩ => ⟨_, Ent.dat0, 0, 0, fun _ => 0, none, 0, [], 2, hv, .inr ⟨rfl, rfl, rfl, rfl, rfl, fun x hx e => ?_⟩, by rw [hL]⟩
    have h1 := build_len hx e
    have h2 := ((build_iff x b).1 e).2.1
    omega
  · obtain ⟨k0, k1, n0, n1, m0, m1, m2, m3, f, rest, hb⟩ := header (b := b) (by omega)
    exact refParse_ok k0 k1 n0 n1 m0 m1 m2 m3 f rest a n cap b hb hn (by omega) L
/-- what reading comes to is one thing -/
theorem PR.one {b : List UInt8} {c m c' m' : Int} {f f' : Nat → UInt8} {l l' : List PA} {e e' : Nat} (h : PR b c m f l e) (h' : PR b c' m' f' l' e') : c = c' ∧ m = m' ∧ idL f = idL f' ∧ l = l' ∧ e = e' := by
  rcases h with ⟨rfl, h⟩ | ⟨rfl, rfl, rfl, rfl, rfl, h⟩ <;> rcases h' with ⟨rfl, h'⟩ | ⟨rfl, rfl, rfl, rfl, rfl, h'⟩
  · have key : (⟨c, m, idL f, l⟩ : SMsg) = ⟨c', m', idL f', l'⟩ := by
      obtain ⟨g, h5, e5⟩ := (build_iff _ _).1 h
      have hlen : 20 ≤ b.length := build_len rfl h
      obtain ⟨k0, k1, n0, n1, m0, m1, m2, m3, f0, rest, hb⟩ := header (b := b) hlen
      have h2 := h; have h2' := h'
      rw [hb] at h2 h2'
      obtain ⟨g1, a1, -, -, a3, a4, -⟩ := build_head (by rfl) h2
      obtain ⟨g1', a1', -, -, a3', a4', -⟩ := build_head (by rfl) h2'
      have el := enc_inj (small_good g1) (small_good g1') (a4.trans a4'.symm)
      obtain ⟨-, p2, p3, p4, p5, -⟩ := good_parts g1
      obtain ⟨-, q2, q3, q4, q5, -⟩ := good_parts g1'
      simp only at *
      have k := kind_of c.toNat m.toNat (by omega) (by omega)
      have k' := kind_of c'.toNat m'.toNat (by omega) (by omega)
      rw [a1] at k; rw [a1'] at k'
      have e1 := k.2.2.1.symm.trans k'.2.2.1
      have e2 := k.2.2.2.1.symm.trans k'.2.2.2.1
      rw [el, a3, a3', show c = c' by omega, show m = m' by omega]
    injection key with k1 k2 k3 k4
    exact ⟨k1, k2, k3, k4, rfl⟩
  · exact absurd h (h' _ rfl)
  · exact absurd h' (h _ rfl)
  · exact ⟨rfl, rfl, rfl, rfl, rfl⟩
end stun
end Go.Proofs.Ytggammbhmoippaa
