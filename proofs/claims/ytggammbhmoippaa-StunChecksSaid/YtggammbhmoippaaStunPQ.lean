/- stun.Parse, walked whole. -/
import Derived.Test.YtggammbhmoippaaStunPP
import Derived.Test.YtggammbhmoippaaHAuto
namespace Go.Proofs.Ytggammbhmoippaa
set_option linter.unusedVariables false
set_option linter.unusedSimpArgs false
open Go.RowKit
namespace stun
open wr (pad4 pad4_length pad4_mod pad4_head pad4_step pad4_done be16 be32)
open r1 (be2 be4 be2_len be4_len)
open rd (rdB rdL rdV num num1)
namespace FxStunPQ
set_option maxRecDepth 100000
theorem ag34 : Program.aggN Try.prog 34 = some 15 := by kernel_rfl
theorem ag73 : Program.aggN Try.prog 73 = some 2 := by kernel_rfl
theorem el32 : Elt Try.prog 32 73 2 32 (.agg #[.int .u16 0, .slice none 0 0]) := ⟨Try.underlying32, by kernel_rfl, rfl, by decide, by simp [Value.cells, Value.oneCell']⟩
theorem fo34_2 : Program.fieldOff Try.prog 34 2 = some 2 := by kernel_rfl
theorem fo34_3 : Program.fieldOff Try.prog 34 3 = some 14 := by kernel_rfl
theorem fo73_1 : Program.fieldOff Try.prog 73 1 = some 1 := by kernel_rfl
theorem pl34 : Program.places Try.prog 34 = some [(0, 1), (1, 1), (2, 12), (14, 1)] := by kernel_rfl
theorem pl73 : Program.places Try.prog 73 = some [(0, 1), (1, 1)] := by kernel_rfl
theorem sc32 : Program.isSc Try.prog 32 = true := by kernel_rfl
theorem sc5 : Program.isSc Try.prog 5 = true := by kernel_rfl
theorem sl27 : Program.slI Try.prog 27 = some 1 := by kernel_rfl
theorem sz27 : (Try.prog.info? 27).map (·.size) = some 1 := by kernel_rfl
theorem sz34 : (Try.prog.info? 34).map (·.size) = some 15 := by kernel_rfl
theorem sz5 : (Try.prog.info? 5).map (·.size) = some 1 := by kernel_rfl
theorem sz73 : (Try.prog.info? 73).map (·.size) = some 2 := by kernel_rfl
theorem zc34 : Program.zeroC Try.prog 34 = some #[.int .i64 0, .int .i64 0, .int .u8 0, .int .u8 0, .int .u8 0, .int .u8 0, .int .u8 0, .int .u8 0, .int .u8 0, .int .u8 0, .int .u8 0, .int .u8 0, .int .u8 0, .int .u8 0, .slice none 0 0] := by kernel_rfl
theorem zc73 : Program.zeroC Try.prog 73 = some #[.int .u16 0, .slice none 0 0] := by kernel_rfl
theorem zs73 : ((Try.prog.info? 73).bind fun i => i.zero.map fun z => (i.size, z.cells.size)) = some (2, 2) := by kernel_rfl
end FxStunPQ
open FxStunPQ
theorem num4 (x y z u : UInt8) : (num [x, y, z, u]).toNat = ((x.toNat * 256 + y.toNat) * 256 + z.toNat) * 256 + u.toNat := by
  have hx := x.toNat_lt; have hy := y.toNat_lt; have hz := z.toNat_lt; have hu := u.toNat_lt
  have step : ∀ (n : Nat) (c : UInt8), n < 16777216 → (num1 (UInt32.ofNat n) c) = UInt32.ofNat (n * 256 + c.toNat) := fun n c hn => by
    have hc := c.toNat_lt
    apply UInt32.toNat_inj.1
    rw [UInt32.toNat_ofNat_of_lt' (by show _ < 4294967296; omega)]
    simp only [num1, shl32]
    rw [UInt32.toNat_or, UInt32.toNat_ofNat_of_lt' (show n < 4294967296 by omega)]
    simp
    rw [show n * 256 % 4294967296 = n * 256 by omega, or_add _ _ (by omega)]
  have e : num [x, y, z, u] = UInt32.ofNat (((x.toNat * 256 + y.toNat) * 256 + z.toNat) * 256 + u.toNat) := by
    simp only [num, List.foldl_cons, List.foldl_nil]
    rw [show (0 : UInt32) = UInt32.ofNat 0 from rfl, step 0 x (by omega), step _ y (by omega), step _ z (by omega), step _ u (by omega)]
    rw [Nat.zero_mul, Nat.zero_add]
  rw [e, UInt32.toNat_ofNat_of_lt' (by show _ < 4294967296; omega)]
theorem magic_of {x y z u : UInt8} (h : num [x, y, z, u] = 554869826) : [x, y, z, u] = magicB := by
  have hx := x.toNat_lt; have hy := y.toNat_lt; have hz := z.toNat_lt; have hu := u.toNat_lt
  have e := num4 x y z u
  rw [h] at e
  rw [show (554869826 : UInt32).toNat = 554869826 from by decide] at e
  have h1 : x = 33 := UInt8.toNat_inj.1 (by show _ = 33; omega)
  have h2 : y = 18 := UInt8.toNat_inj.1 (by show _ = 18; omega)
  have h3 : z = 164 := UInt8.toNat_inj.1 (by show _ = 164; omega)
  have h4 : u = 66 := UInt8.toNat_inj.1 (by show _ = 66; omega)
  subst h1; subst h2; subst h3; subst h4
  decide
theorem rdV_le (k : Nat) (l : List UInt8) (b : Bool) : (rdV k l b).length ≤ k := by
  unfold rdV; split
  · simp
  · rw [List.length_take]; omega
theorem small_good {m : SMsg} (h : m.good = true) : small m.attrs := fun a ha => by have := (good_parts h).1 a ha; omega
theorem parse_none {k0 k1 n0 n1 m0 m1 m2 m3 : UInt8} {f : Nat → UInt8} {rest b : List UInt8} (hb : b = [k0, k1, n0, n1, m0, m1, m2, m3] ++ (idL f ++ rest)) (h : ∀ ys, small ys → enc ys ≠ rest) :
    ∀ x : SMsg, x.id.length = 12 → x.build ≠ some b := fun x hx e => by
  subst hb
  obtain ⟨hg, -, -, -, -, he, -⟩ := build_head hx e
  exact h _ (small_good hg) he
theorem enc_nil_iff : enc ([] : List PA) = [] := rfl
/-- what holds of what has been read -/
structure LI (rest l : List UInt8) (bad : Bool) (xs : List PA) : Prop where
  ok : bad = false → enc xs ++ l = rest
  no : bad = true → ∀ ys, small ys → enc ys ≠ rest
  len : 4 * xs.length + l.length ≤ rest.length + (if bad then 4 else 0)
  sm : small xs
theorem LI.start (rest : List UInt8) : LI rest rest false [] := ⟨fun _ => rfl, by simp, by simp, fun a ha => by simp at ha⟩
theorem small_snoc {xs : List PA} {x : PA} (h : small xs) (hx : x.2.length < 65536) : small (xs ++ [x]) := fun a ha => by
  rcases List.mem_append.1 ha with h1 | h1
  · exact h a h1
  · simp at h1; subst h1; exact hx
theorem LI.stuck {rest l : List UInt8} {xs : List PA} (h : LI rest l false xs) (hl : l ≠ []) (hq : (atRead l).bad = true ∨ ∃ x ∈ (atRead l).w, x ≠ 0) : ∀ ys, small ys → enc ys ≠ rest := fun ys hs e => by
  rw [← h.ok rfl] at e
  obtain ⟨zs, rfl, e2⟩ := enc_cancel xs ys l hs h.sm e
  exact atRead_no l hl hq zs (fun a ha => hs a (by simp [ha])) e2
theorem LI.step {rest l : List UInt8} {xs : List PA} (h : LI rest l false xs) (hl : l ≠ []) (hz : ∀ x ∈ (atRead l).w, x = 0) (hv : (atRead l).v.length < 65536) (hb : (atRead l).l.length ≤ l.length) :
    LI rest (atRead l).l (atRead l).bad (xs ++ [((atRead l).t, (atRead l).v)]) := by
  cases hq : (atRead l).bad with
  | true =>
    refine ⟨by simp, fun _ => h.stuck hl (.inl hq), ?_, small_snoc h.sm hv⟩
    have := h.len
    simp at this ⊢; omega
  | false =>
    have e := atRead_step l hq hz
    have hp := encA_pos ((atRead l).t, (atRead l).v)
    have hlen := congrArg List.length e
    rw [List.length_append] at hlen
    refine ⟨fun _ => ?_, by simp, ?_, small_snoc h.sm hv⟩
    · rw [enc_app, List.append_assoc, ← h.ok rfl]
      congr 1
      rw [show enc [((atRead l).t, (atRead l).v)] = encA ((atRead l).t, (atRead l).v) by simp [enc]]
      exact e.symm
    · have := h.len
      simp at this ⊢; omega
/-- a round of the reading loop lessens this -/
theorem LI.dec {l : List UInt8} (hb : (atRead l).l.length ≤ l.length) (hz : ∀ x ∈ (atRead l).w, x = 0) : (atRead l).l.length + (if (atRead l).bad then 0 else 1) < l.length + 1 := by
  cases hq : (atRead l).bad with
  | true => simp; omega
  | false =>
    have e := atRead_step l hq hz
    have hp := encA_pos ((atRead l).t, (atRead l).v)
    have hlen := congrArg List.length e
    rw [List.length_append] at hlen
    simp; omega
theorem take_zero {w : List UInt8} {i : Nat} (hz : ∀ x ∈ w.take i, x = 0) (hi : i < w.length) (hc : (w.getD i 0 != 0) = false) : ∀ x ∈ w.take (i + 1), x = 0 := by
  intro x hx
  rw [List.take_add_one] at hx
  rcases List.mem_append.1 hx with h | h
  · exact hz x h
  · rw [List.getElem?_eq_getElem hi] at h
    simp at h
    subst h
    simpa [hi] using hc
theorem getD_mem0 {w : List UInt8} {i : Nat} (hi : i < w.length) : w.getD i 0 ∈ w := by
  rw [List.getD_eq_getElem?_getD, List.getElem?_eq_getElem hi]; simp
theorem parse_yes {k0 k1 n0 n1 m0 m1 m2 m3 : UInt8} {f : Nat → UInt8} {rest b : List UInt8} {k : Nat} {xs : List PA} (hb : b = [k0, k1, n0, n1, m0, m1, m2, m3] ++ (idL f ++ rest)) (hk : k = k0.toNat * 256 + k1.toNat) (h1 : k < 16384) (h2 : n0.toNat * 256 + n1.toNat = rest.length)
    (h4 : num [m0, m1, m2, m3] = 554869826) (h5 : b.length ≤ 1500) (h : LI rest [] false xs) (hg : (⟨clsP k, mthP k, idL f, xs⟩ : SMsg).good = true) : (⟨clsP k, mthP k, idL f, xs⟩ : SMsg).build = some b := by
  have e := h.ok rfl
  rw [List.append_nil] at e
  rw [build_iff]
  refine ⟨hg, h5, ?_⟩
  show b = be2 (kindOf (clsP k) (mthP k)) ++ be2 (enc xs).length ++ magicB ++ idL f ++ enc xs
  rw [(kind_to k h1).2.2, e, ← h2, hk, be2_num2, be2_num2, ← magic_of h4, hb]
  simp
theorem parse_bad {k0 k1 n0 n1 m0 m1 m2 m3 : UInt8} {f : Nat → UInt8} {rest b : List UInt8} {k : Nat} {xs : List PA} (hb : b = [k0, k1, n0, n1, m0, m1, m2, m3] ++ (idL f ++ rest)) (hk : k = k0.toNat * 256 + k1.toNat)
    (h : LI rest [] false xs) (hg : (⟨clsP k, mthP k, idL f, xs⟩ : SMsg).good = false) : ∀ x : SMsg, x.id.length = 12 → x.build ≠ some b := fun x hx e => by
  subst hb
  obtain ⟨hg', h1, h2, -, h3, he, -⟩ := build_head hx e
  have e2 := h.ok rfl
  rw [List.append_nil, ← he] at e2
  have e3 := enc_inj h.sm (small_good hg') e2
  obtain ⟨g1, g2, g3, g4, g5, g6⟩ := good_parts hg'
  obtain ⟨k1, k2, k3, k4, k5⟩ := kind_of x.cls.toNat x.mth.toNat (by omega) (by omega)
  rw [h1, ← hk] at k3 k4
  have : (⟨clsP k, mthP k, idL f, xs⟩ : SMsg) = x := by
    rw [k3, k4, e3, ← h3, Int.toNat_of_nonneg g2, Int.toNat_of_nonneg g4]
  rw [this, hg'] at hg
  cases hg
set_option maxHeartbeats 4000000 in
theorem Parse_ok (k0 k1 n0 n1 m0 m1 m2 m3 : UInt8) (f : Nat → UInt8) (rest : List UInt8) (a : Option Addr) (n cap : Nat) (b : List UInt8) (hb : b = [k0, k1, n0, n1, m0, m1, m2, m3] ++ (idL f ++ rest)) (hn : b.length = n) (hr : n ≤ 140737488351232)
    (hg1 : k0.toNat * 256 + k1.toNat < 16384) (hg2 : n0.toNat * 256 + n1.toNat = rest.length) (hg3 : rest.length % 4 = 0) (hg4 : num [m0, m1, m2, m3] = 554869826) (hg5 : b.length ≤ 1500) (L : List SA) :
    Fn Try.prog 14 [.slice a n cap] (SA.rds 1 (.slice a n cap) n (b.map v8) :: L)
      (fun v L' => ∃ c m f' a' cap' l' e, v = .tuple #[.agg (msgC c m f' (.slice a' (l' : List At).length cap')), vN e] ∧ PR b c m f' (l'.map pl) e ∧ L' = SA.dat (⟨a', cap', l'⟩ : Sl At) :: SA.rds 1 (.slice a n cap) n (b.map v8) :: L) := by
  have hbl : b.length = 20 + rest.length := by rw [hb]; simp; omega
  obtain ⟨⟨v1, l1, b1⟩, ⟨v2, l2, b2'⟩, ⟨v3, l3, b3⟩, ⟨v4, l4, b4⟩⟩ := steps20 k0 k1 n0 n1 m0 m1 m2 m3 f rest b hb
  have hk0 := k0.toNat_lt
  have hk1 := k1.toNat_lt
  have hn0 := n0.toNat_lt
  have hn1 := n1.toNat_lt
  refine Fn.of (N := 120) Try.func14 rfl rfl ?_
  intro Xh
  refine TC.know (reads_cap Reads.rds (a := a) (n := n) (cap := cap) (cs := b.map v8) inn) ?_
  rintro ⟨hc1, hc2, -, -⟩
  simp only [maxLen] at hc2
  refine TC.seq ?_
  refine TC.region ?_
  refine TL.eff rfl rfl rfl (X.alloc rfl zc34) ?_
  rintro _ _ ⟨b2, rfl, rfl⟩
  refine TL.val rfl rfl rfl (Y.assign rfl rfl) ?_
  refine TL.nil ?_
  refine TQ.next ?_
  refine TC.seq ?_
  refine TC.region ?_
  refine TL.val rfl rfl rfl (Y.move rfl rfl) ?_
  refine TL.eff rfl rfl rfl (X.call rfl Try.func38 (by kernel_rfl) rfl rfl (Fn.preE (by repeat first | (with_reducible apply Ent.refl) | (apply Ent.cons; case h => first | (with_reducible (repeat first | apply Pull.here | apply Pull.there); done) | (repeat first | apply Pull.here | apply Pull.there))) (rd.New_fn _ _ _ _ (by first | assumption | rfl) (by omega) _))) ?_
  rintro _ _ ⟨p14, rfl, rfl⟩
  refine TL.val rfl rfl rfl (Y.assign rfl rfl) ?_
  refine TL.nil ?_
  refine TQ.next ?_
  refine TC.seq ?_
  refine TC.region ?_
  refine TL.val rfl rfl rfl (Y.move rfl rfl) ?_
  refine TL.eff rfl rfl rfl (X.call rfl Try.func39 (by kernel_rfl) rfl rfl (Fn.preE (by repeat first | (with_reducible apply Ent.refl) | (apply Ent.cons; case h => first | (with_reducible (repeat first | apply Pull.here | apply Pull.there); done) | (repeat first | apply Pull.here | apply Pull.there))) (rd.U16_fn _ _ _ _))) ?_
  rintro _ _ ⟨rfl, rfl⟩
  rw [v1, l1, b1]
  refine TL.val rfl rfl rfl (Y.conv rfl Try.underlying44 Try.underlying3 rfl (cv_16_N)) ?_
  refine TL.as (vN (k0.toNat * 256 + k1.toNat)) (by rw [num2]) ?_
  refine TL.val rfl rfl rfl (Y.assign rfl rfl) ?_
  refine TL.nil ?_
  refine TQ.next ?_
  refine TC.seq ?_
  obtain ⟨k, hk⟩ : ∃ k, k = k0.toNat * 256 + k1.toNat := ⟨_, rfl⟩
  rw [← hk]
  rw [← hk] at hg1
  have q1 : k / 16 &&& 1 ≤ 1 := Nat.and_le_right
  have q2 : k / 128 &&& 2 ≤ 2 := Nat.and_le_right
  have q3 : k &&& 15 ≤ 15 := Nat.and_le_right
  have q4 : k / 2 &&& 112 ≤ 112 := Nat.and_le_right
  have q5 : k / 4 &&& 3968 ≤ 3968 := Nat.and_le_right
  have o1 : k &&& 15 ||| k / 2 &&& 112 < 16384 := Nat.or_lt_two_pow (n := 14) (by omega) (by omega)
  refine TC.region ?_
  refine TL.val rfl rfl rfl (Y.move rfl rfl) ?_
  refine TL.val rfl rfl rfl (Y.bin rfl rfl rfl (br_shrN (n := 4) (c := 16) rfl (by omega))) ?_
  refine TL.val rfl rfl rfl (Y.bin rfl rfl rfl (br_andN (n := 1) (by omega) (by omega))) ?_
  refine TL.val rfl rfl rfl (Y.move rfl rfl) ?_
  refine TL.val rfl rfl rfl (Y.bin rfl rfl rfl (br_shrN (n := 7) (c := 128) rfl (by omega))) ?_
  refine TL.val rfl rfl rfl (Y.bin rfl rfl rfl (br_andN (n := 2) (by omega) (by omega))) ?_
  refine TL.val rfl rfl rfl (Y.bin rfl rfl rfl (br_orN (by omega) (by omega))) ?_
  refine TL.val rfl rfl rfl (Y.move rfl rfl) ?_
  refine TL.val rfl rfl rfl (Y.bin rfl rfl rfl (br_andN (n := 15) (by omega) (by omega))) ?_
  refine TL.val rfl rfl rfl (Y.move rfl rfl) ?_
  refine TL.val rfl rfl rfl (Y.bin rfl rfl rfl (br_shrN (n := 1) (c := 2) rfl (by omega))) ?_
  refine TL.val rfl rfl rfl (Y.bin rfl rfl rfl (br_andN (n := 112) (by omega) (by omega))) ?_
  refine TL.val rfl rfl rfl (Y.bin rfl rfl rfl (br_orN (by omega) (by omega))) ?_
  refine TL.val rfl rfl rfl (Y.move rfl rfl) ?_
  refine TL.val rfl rfl rfl (Y.bin rfl rfl rfl (br_shrN (n := 2) (c := 4) rfl (by omega))) ?_
  refine TL.val rfl rfl rfl (Y.bin rfl rfl rfl (br_andN (n := 3968) (by omega) (by omega))) ?_
  refine TL.val rfl rfl rfl (Y.bin rfl rfl rfl (br_orN (by omega) (by omega))) ?_
  refine TL.val rfl rfl rfl (Y.buildS (cells := msgC (clsP k) (mthP k) (fun _ => 0) (.slice none 0 0)) rfl rfl pl34 zc34 (by kernel_rfl)) ?_
  refine TL.eff rfl rfl rfl (X.alloc rfl zc34) ?_
  rintro _ _ ⟨b6, rfl, rfl⟩
  refine TL.eff0 rfl rfl (by first | exact X.storeAll rfl sz34 (by rfl) rfl rfl (allOne (by rfl)) pul (by rfl) | exact X.storeAll rfl sz34 szz rfl rfl (by simp [Value.oneCell']) pul szz | exact X.storeAgg rfl sz34 szz rfl rfl (by simp [Value.oneCell']) pul szz (writeM (by ((try simp only [List.length_set, List.length_map, List.length_append, List.length_replicate]); omega)))) ?_
  rintro _ _ rfl
  refine TL.nil ?_
  refine TQ.next ?_
  refine TC.seq ?_
  refine TC.region ?_
  refine TL.val rfl rfl rfl (Y.move rfl rfl) ?_
  refine TL.eff rfl rfl rfl (X.call rfl Try.func39 (by kernel_rfl) rfl rfl (Fn.preE (by repeat first | (with_reducible apply Ent.refl) | (apply Ent.cons; case h => first | (with_reducible (repeat first | apply Pull.here | apply Pull.there); done) | (repeat first | apply Pull.here | apply Pull.there))) (rd.U16_fn _ _ _ _))) ?_
  rintro _ _ ⟨rfl, rfl⟩
  rw [v2, l2, b2']
  refine TL.val rfl rfl rfl (Y.conv rfl Try.underlying44 Try.underlying3 rfl (cv_16_N)) ?_
  refine TL.as (vN (n0.toNat * 256 + n1.toNat)) (by rw [num2]) ?_
  refine TL.val rfl rfl rfl (Y.move rfl rfl) ?_
  refine TL.eff rfl rfl rfl (X.call rfl Try.func40 (by kernel_rfl) rfl rfl (Fn.preE (by repeat first | (with_reducible apply Ent.refl) | (apply Ent.cons; case h => first | (with_reducible (repeat first | apply Pull.here | apply Pull.there); done) | (repeat first | apply Pull.here | apply Pull.there))) (rd.U32_fn _ _ _ _))) ?_
  rintro _ _ ⟨rfl, rfl⟩
  rw [v3, l3, b3]
  refine TL.val rfl rfl rfl (Y.assign rfl rfl) ?_
  refine TL.val rfl rfl rfl (Y.assign rfl rfl) ?_
  refine TL.nil ?_
  refine TQ.next ?_
  refine TC.seq ?_
  refine TC.draws 4 [] (by kernel_rfl) (by kernel_rfl) (by repeat first | exact holds_nil | refine holds_cons inn ?_) ?_
  refine TA.takeP 0 rfl rfl rfl rfl (by kernel_rfl) (by kernel_rfl) (by kernel_rfl) rfl (fun _ _ _ h => h) (by first | exact Y.fieldAddrJ rfl fo34_2 rfl nqq | exact Y.fieldAddr rfl fo34_2 rfl nqq) ?_
  refine TA.take 1 rfl rfl rfl rfl (by kernel_rfl) (by kernel_rfl) (by kernel_rfl) rfl (by kernel_rfl) (by kernel_rfl) (fun _ _ _ h => h) (Y.sliceArr rfl Try.underlying22 sz5 rfl) ?_
  refine TA.takeP 2 rfl rfl rfl rfl (by kernel_rfl) (by kernel_rfl) (by kernel_rfl) rfl (fun _ _ _ h => h) (Y.move rfl rfl) ?_
  refine TA.one 3 (by kernel_rfl) rfl rfl rfl rfl (X.call rfl Try.func41 (by kernel_rfl) rfl rfl (Fn.preE (by repeat first | (with_reducible apply Ent.refl) | (apply Ent.cons; case h => first | (with_reducible (repeat first | apply Pull.here | apply Pull.there); done) | (repeat first | apply Pull.here | apply Pull.there))) (rd.Take_fn _ 12 _ _ (by omega) (by simp; omega) _))) ?_
  rintro _ _ ⟨a44, c44, rfl, rfl⟩
  rw [v4, l4, b4]
  refine ⟨(Or.inr (by repeat first | exact holds_nil | refine holds_cons inn ?_)), ?_⟩
  refine TA.one 4 (by kernel_rfl) rfl rfl rfl rfl (X.copyBlk (cs := msgC (clsP k) (mthP k) (fun _ => 0) (.slice none 0 0)) (cs' := msgC (clsP k) (mthP k) f (.slice none 0 0)) (news := (idL f).map v8) (m := (idL f).length) (sz := 1) rfl Try.underlying27 (by kernel_rfl) rfl rfl (Src.owns Try.underlying27 inn) pul (by simp) (by simp [msgC]) (by kernel_rfl)) ?_
  rintro _ _ ⟨rfl, rfl⟩
  refine ⟨(Or.inl (by kernel_rfl)), ?_⟩
  refine TA.done (by kernel_rfl) ?_
  refine TQ.next ?_
  refine TC.seq ?_
  refine TC.seq ?_
  refine TC.region ?_
  refine TL.val rfl rfl rfl (Y.move rfl rfl) ?_
  refine TL.eff rfl rfl rfl (X.call rfl Try.func42 (by kernel_rfl) rfl rfl (Fn.preE (by repeat first | (with_reducible apply Ent.refl) | (apply Ent.cons; case h => first | (with_reducible (repeat first | apply Pull.here | apply Pull.there); done) | (repeat first | apply Pull.here | apply Pull.there))) (rd.Bad_fn _ _ _ _))) ?_
  rintro _ _ ⟨rfl, rfl⟩
  refine TL.val rfl rfl rfl (Y.move rfl rfl) ?_
  refine TL.valG rfl rfl rfl (Y.move rfl rfl) ?_
  refine TL.valG rfl rfl rfl (Y.bin rfl rfl rfl (br_geN (n := 16384))) ?_
  refine TL.is false (by first | rfl | (simp only [decide_eq_true_eq, decide_eq_false_iff_not, Bool.not_eq_true', Bool.not_eq_false', Bool.not_eq_eq_eq_not, Bool.not_true, Bool.not_false, Nat.not_lt, Nat.not_le]; omega) | (simp [*]; done) | (simp; omega)) ?_
  refine TL.val rfl rfl rfl (Y.pick_f rfl rfl rfl) ?_
  refine TL.val rfl rfl rfl (Y.move rfl rfl) ?_
  refine TL.valG rfl rfl rfl (Y.move rfl rfl) ?_
  refine TL.valG rfl rfl rfl (Y.move rfl rfl) ?_
  refine TL.effG rfl rfl rfl (X.call rfl Try.func43 (by kernel_rfl) rfl rfl (Fn.preE (by repeat first | (with_reducible apply Ent.refl) | (apply Ent.cons; case h => first | (with_reducible (repeat first | apply Pull.here | apply Pull.there); done) | (repeat first | apply Pull.here | apply Pull.there))) (rd.Left_fn _ _ _ _))) ?_
  rintro _ _ ⟨rfl, rfl⟩
  refine TL.valG rfl rfl rfl (Y.bin rfl rfl rfl (br_neN)) ?_
  refine TL.is false (by first | rfl | (simp only [decide_eq_true_eq, decide_eq_false_iff_not, Bool.not_eq_true', Bool.not_eq_false', Bool.not_eq_eq_eq_not, Bool.not_true, Bool.not_false, Nat.not_lt, Nat.not_le]; omega) | (simp [*]; done) | (simp; omega)) ?_
  refine TL.val rfl rfl rfl (Y.pick_f rfl rfl rfl) ?_
  refine TL.val rfl rfl rfl (Y.move rfl rfl) ?_
  refine TL.valG rfl rfl rfl (Y.move rfl rfl) ?_
  refine TL.valG rfl rfl rfl (Y.bin rfl rfl rfl (br_remN (n := 4) (by omega))) ?_
  refine TL.valG rfl rfl rfl (Y.bin rfl rfl rfl (br_neN (n := 0))) ?_
  refine TL.is false (by first | rfl | (simp only [decide_eq_true_eq, decide_eq_false_iff_not, Bool.not_eq_true', Bool.not_eq_false', Bool.not_eq_eq_eq_not, Bool.not_true, Bool.not_false, Nat.not_lt, Nat.not_le]; omega) | (simp [*]; done) | (simp; omega)) ?_
  refine TL.val rfl rfl rfl (Y.pick_f rfl rfl rfl) ?_
  refine TL.val rfl rfl rfl (Y.move rfl rfl) ?_
  refine TL.valG rfl rfl rfl (Y.move rfl rfl) ?_
  refine TL.valG rfl rfl rfl (Y.bin rfl rfl rfl (br_ne32 (y := 554869826))) ?_
  refine TL.is false (by first | rfl | (simp only [decide_eq_true_eq, decide_eq_false_iff_not, Bool.not_eq_true', Bool.not_eq_false', Bool.not_eq_eq_eq_not, Bool.not_true, Bool.not_false, Nat.not_lt, Nat.not_le]; omega) | (simp [*]; done) | (simp; omega)) ?_
  refine TL.val rfl rfl rfl (Y.pick_f rfl rfl rfl) ?_
  refine TL.val rfl rfl rfl (Y.move rfl rfl) ?_
  refine TL.valG rfl rfl rfl (Y.move rfl rfl) ?_
  refine TL.valG rfl rfl rfl (Y.len rfl Try.underlying27 rfl) ?_
  refine TL.valG rfl rfl rfl (Y.bin rfl rfl rfl (br_gtN (n := 1500))) ?_
  refine TL.is false (by first | rfl | (simp only [decide_eq_true_eq, decide_eq_false_iff_not, Bool.not_eq_true', Bool.not_eq_false', Bool.not_eq_eq_eq_not, Bool.not_true, Bool.not_false, Nat.not_lt, Nat.not_le]; omega) | (simp [*]; done) | (simp; omega)) ?_
  refine TL.val rfl rfl rfl (Y.pick_f rfl rfl rfl) ?_
  refine TL.nil ?_
  refine TQ.next ?_
  refine TC.cond_f rfl ?_
  refine TC.skip ?_
  refine TQ.next ?_
  refine TC.seq ?_
  refine TC.block ?_
  refine TC.to (Ent.nilOwn 73 2) ?_
  refine TC.to (Ent.rdss0) ?_
  refine TC.loopF (ι := List UInt8 × Bool × Option Addr × Nat × List At) [3] (fun i => LI rest i.1 i.2.1 (i.2.2.2.2.map pl)) (fun i => []) (fun i => [rd.R p14 i.1 i.2.1, SA.blk b6 (msgC (clsP k) (mthP k) f (.slice i.2.2.1 i.2.2.2.2.length i.2.2.2.1)) 34, SA.owns 73 2 (.slice i.2.2.1 i.2.2.2.2.length i.2.2.2.1) i.2.2.2.2.length (Dat.cs i.2.2.2.2), SA.rdss (i.2.2.2.2.flatMap Dat.g)]) (fun i => i.1.length + (if i.2.1 then 0 else 1)) ((rest, false, none, 0, [])) (LI.start rest) trivial (Pulls.cons pul (Pulls.cons pul (Pulls.cons pul (Pulls.cons pul Pulls.nil)))) ?_
  rintro ⟨l, bad, ya, yc, xs⟩ hI F' L' rfl hL'
  simp only [List.cons_append, List.nil_append] at hL'
  subst hL'
  simp only at hI ⊢
  have hlen := hI.len
  rw [List.length_map] at hlen
  refine TC.seq ?_
  refine TC.seq ?_
  refine TC.region ?_
  refine TL.val rfl rfl rfl (Y.move rfl rfl) ?_
  refine TL.eff rfl rfl rfl (X.call rfl Try.func43 (by kernel_rfl) rfl rfl (Fn.preE (by repeat first | (with_reducible apply Ent.refl) | (apply Ent.cons; case h => first | (with_reducible (repeat first | apply Pull.here | apply Pull.there); done) | (repeat first | apply Pull.here | apply Pull.there))) (rd.Left_fn _ _ _ _))) ?_
  rintro _ _ ⟨rfl, rfl⟩
  refine TL.val rfl rfl rfl (Y.bin rfl rfl rfl (br_gtN (n := 0))) ?_
  refine TL.val rfl rfl rfl (Y.move rfl rfl) ?_
  refine TL.case (fun g8_3 => ?_) (fun g8_3 => ?_)
  · try simp only [decide_eq_true_eq, decide_eq_false_iff_not, Bool.not_eq_true', Bool.not_eq_false', Nat.not_lt, Nat.not_le, beq_iff_eq, bne_iff_ne] at g8_3
    refine TL.valG rfl rfl rfl (Y.move rfl rfl) ?_
    refine TL.effG rfl rfl rfl (X.call rfl Try.func42 (by kernel_rfl) rfl rfl (Fn.preE (by repeat first | (with_reducible apply Ent.refl) | (apply Ent.cons; case h => first | (with_reducible (repeat first | apply Pull.here | apply Pull.there); done) | (repeat first | apply Pull.here | apply Pull.there))) (rd.Bad_fn _ _ _ _))) ?_
    rintro _ _ ⟨rfl, rfl⟩
    refine TL.valG rfl rfl rfl (Y.not rfl rfl) ?_
    refine TL.val rfl rfl rfl (Y.pick_t rfl rfl rfl) ?_
    refine TL.nil ?_
    refine TQ.next ?_
    refine TC.cond rfl (fun c1 => ?_) (fun c1 => ?_)
    · try simp only [decide_eq_true_eq, decide_eq_false_iff_not, Bool.not_eq_true', Bool.not_eq_false', Bool.and_eq_true, Bool.or_eq_true, Nat.not_lt, Nat.not_le, beq_iff_eq, bne_iff_ne] at c1
      subst c1
      have hl0 : l ≠ [] := by intro e; rw [e] at g8_3; simp at g8_3
      have hlen0 : 4 * xs.length + l.length ≤ rest.length := by simpa using hlen
      refine TC.skip ?_
      refine TQ.next ?_
      refine TC.block ?_
      refine TC.seq ?_
      refine TC.region ?_
      refine TL.val rfl rfl rfl (Y.move rfl rfl) ?_
      refine TL.eff rfl rfl rfl (X.call rfl Try.func39 (by kernel_rfl) rfl rfl (Fn.preE (by repeat first | (with_reducible apply Ent.refl) | (apply Ent.cons; case h => first | (with_reducible (repeat first | apply Pull.here | apply Pull.there); done) | (repeat first | apply Pull.here | apply Pull.there))) (rd.U16_fn _ _ _ _))) ?_
      rintro _ _ ⟨rfl, rfl⟩
      obtain ⟨t, ht⟩ : ∃ x, x = (num (rdV 2 l false)).toUInt16 := ⟨_, rfl⟩
      obtain ⟨w1, hw1⟩ : ∃ x, x = rdL 2 l false := ⟨_, rfl⟩
      obtain ⟨d1, hd1⟩ : ∃ x, x = rdB 2 l false := ⟨_, rfl⟩
      have hw1' : w1.length ≤ l.length := by rw [hw1]; exact rd.rdL_len ..
      rw [← ht, ← hw1, ← hd1]
      refine TL.val rfl rfl rfl (Y.buildS (cells := #[v16 t, .slice none 0 0]) rfl rfl pl73 zc73 (by kernel_rfl)) ?_
      refine TL.eff rfl rfl rfl (X.alloc rfl zc73) ?_
      rintro _ _ ⟨b9, rfl, rfl⟩
      refine TL.eff0 rfl rfl (by first | exact X.storeAll rfl sz73 (by rfl) rfl rfl (allOne (by rfl)) pul (by rfl) | exact X.storeAll rfl sz73 szz rfl rfl (by simp [Value.oneCell']) pul szz | exact X.storeAgg rfl sz73 szz rfl rfl (by simp [Value.oneCell']) pul szz (writeM (by ((try simp only [List.length_set, List.length_map, List.length_append, List.length_replicate]); omega)))) ?_
      rintro _ _ rfl
      refine TL.nil ?_
      refine TQ.next ?_
      refine TC.seq ?_
      refine TC.region ?_
      refine TL.val rfl rfl rfl (Y.move rfl rfl) ?_
      refine TL.eff rfl rfl rfl (X.call rfl Try.func39 (by kernel_rfl) rfl rfl (Fn.preE (by repeat first | (with_reducible apply Ent.refl) | (apply Ent.cons; case h => first | (with_reducible (repeat first | apply Pull.here | apply Pull.there); done) | (repeat first | apply Pull.here | apply Pull.there))) (rd.U16_fn _ _ _ _))) ?_
      rintro _ _ ⟨rfl, rfl⟩
      obtain ⟨j, hj⟩ : ∃ x, x = (num (rdV 2 w1 d1)).toUInt16 := ⟨_, rfl⟩
      obtain ⟨w2, hw2⟩ : ∃ x, x = rdL 2 w1 d1 := ⟨_, rfl⟩
      obtain ⟨d2, hd2⟩ : ∃ x, x = rdB 2 w1 d1 := ⟨_, rfl⟩
      have hw2' : w2.length ≤ w1.length := by rw [hw2]; exact rd.rdL_len ..
      have hj' := j.toNat_lt
      rw [← hj, ← hw2, ← hd2]
      refine TL.val rfl rfl rfl (Y.conv rfl Try.underlying44 Try.underlying3 rfl (cv_16_N)) ?_
      refine TL.val rfl rfl rfl (Y.assign rfl rfl) ?_
      refine TL.nil ?_
      refine TQ.next ?_
      refine TC.seq ?_
      refine TC.region ?_
      refine TL.val rfl rfl rfl (Y.move rfl rfl) ?_
      refine TL.val rfl rfl rfl (Y.move rfl rfl) ?_
      refine TL.eff rfl rfl rfl (X.call rfl Try.func41 (by kernel_rfl) rfl rfl (Fn.preE (by repeat first | (with_reducible apply Ent.refl) | (apply Ent.cons; case h => first | (with_reducible (repeat first | apply Pull.here | apply Pull.there); done) | (repeat first | apply Pull.here | apply Pull.there))) (rd.Take_fn _ _ _ _ (by omega) (by omega) _))) ?_
      rintro _ _ ⟨a89, c89, rfl, rfl⟩
      obtain ⟨v, hv⟩ : ∃ x, x = rdV j.toNat w2 d2 := ⟨_, rfl⟩
      obtain ⟨w3, hw3⟩ : ∃ x, x = rdL j.toNat w2 d2 := ⟨_, rfl⟩
      obtain ⟨d3, hd3⟩ : ∃ x, x = rdB j.toNat w2 d2 := ⟨_, rfl⟩
      have hw3' : w3.length ≤ w2.length := by rw [hw3]; exact rd.rdL_len ..
      have hv' : v.length ≤ j.toNat := by rw [hv]; exact rdV_le ..
      rw [← hv, ← hw3, ← hd3]
      refine TL.val rfl rfl rfl (by first | exact Y.fieldAddrJ rfl fo73_1 rfl nqq | exact Y.fieldAddr rfl fo73_1 rfl nqq) ?_
      refine TL.eff0 rfl rfl (by first | exact X.store rfl sz27 rfl rfl rfl pul lnn (by first | exact setM | rfl) | exact X.storeOwn rfl sz27 rfl (Nat.zero_add _).symm rfl rfl pul lnn (by first | exact setML | rfl) | exact X.storeOwn rfl sz27 rfl rfl rfl rfl pul lnn (by first | exact setML | rfl)) ?_
      rintro _ _ rfl
      rw [show (#[v16 t, .slice none 0 0] : Array Value).setIfInBounds 1 (.slice a89 v.length c89) = #[v16 t, .slice a89 v.length c89] from rfl]
      refine TL.nil ?_
      refine TQ.next ?_
      refine TC.seq ?_
      refine TC.seq ?_
      refine TC.region ?_
      refine TL.val rfl rfl rfl (Y.move rfl rfl) ?_
      refine TL.val rfl rfl rfl (Y.move rfl rfl) ?_
      refine TL.val rfl rfl rfl (Y.negI rfl rfl (by omega) (by omega)) ?_
      refine TL.val rfl rfl rfl (Y.bin rfl rfl rfl (br_negand3 (by omega))) ?_
      refine TL.eff rfl rfl rfl (X.call rfl Try.func41 (by kernel_rfl) rfl rfl (Fn.preE (by repeat first | (with_reducible apply Ent.refl) | (apply Ent.cons; case h => first | (with_reducible (repeat first | apply Pull.here | apply Pull.there); done) | (repeat first | apply Pull.here | apply Pull.there))) (rd.Take_fn _ _ _ _ (by omega) (by omega) _))) ?_
      rintro _ _ ⟨a95, c95, rfl, rfl⟩
      obtain ⟨w, hw⟩ : ∃ x, x = rdV ((4 - j.toNat % 4) % 4) w3 d3 := ⟨_, rfl⟩
      obtain ⟨w4, hw4⟩ : ∃ x, x = rdL ((4 - j.toNat % 4) % 4) w3 d3 := ⟨_, rfl⟩
      obtain ⟨d4, hd4⟩ : ∃ x, x = rdB ((4 - j.toNat % 4) % 4) w3 d3 := ⟨_, rfl⟩
      have hw4' : w4.length ≤ w3.length := by rw [hw4]; exact rd.rdL_len ..
      have hww : w.length ≤ (4 - j.toNat % 4) % 4 := by rw [hw]; exact rdV_le ..
      have hR : atRead l = ⟨t, j.toNat, v, w, w4, d4⟩ := by rw [hw, hw4, hd4, hw3, hd3, hv, hw2, hd2, hj, hw1, hd1, ht]; rfl
      rw [← hw, ← hw4, ← hd4]
      clear hw hw4 hd4
      refine TL.val rfl rfl rfl (Y.len rfl Try.underlying27 rfl) ?_
      refine TL.val rfl rfl rfl (Y.move rfl rfl) ?_
      refine TL.nil ?_
      refine TQ.next ?_
      refine TC.block ?_
      refine TC.loopF (ι := Nat) [3] (fun i => i ≤ w.length ∧ ∀ x ∈ w.take i, x = 0) (fun i => [(97, some (vN i))]) (fun i => []) (fun i => w.length - i) (0) (⟨by omega, by simp⟩) ⟨rfl, trivial⟩ Pulls.nil ?_
      rintro i ⟨hi, hz⟩ F' L' rfl hL'
      simp only [List.cons_append, List.nil_append] at hL'
      subst hL'
      refine TC.seq ?_
      refine TC.region ?_
      refine TL.val rfl rfl rfl (Y.bin rfl rfl rfl (br_ltN)) ?_
      refine TL.nil ?_
      refine TQ.next ?_
      refine TC.seq ?_
      refine TC.cond rfl (fun c2 => ?_) (fun c2 => ?_)
      · try simp only [decide_eq_true_eq, decide_eq_false_iff_not, Bool.not_eq_true', Bool.not_eq_false', Bool.and_eq_true, Bool.or_eq_true, Nat.not_lt, Nat.not_le, beq_iff_eq, bne_iff_ne] at c2
        refine TC.skip ?_
        refine TQ.next ?_
        refine TC.seq ?_
        refine TC.block ?_
        refine TC.seq ?_
        refine TC.know (owns_some (n := w.length) (a := a95) inn (by omega)) ?_
        rintro ⟨g, off, rfl⟩
        refine TC.region ?_
        refine TL.val rfl rfl rfl (by first | exact Y.indexSlB rfl sl27 rfl rfl (by omega) nqq | exact Y.indexSl rfl sl27 rfl rfl (by omega) nqq) ?_
        refine TL.val rfl rfl rfl (Y.load rfl sc5 rfl cel8) ?_
        refine TL.val rfl rfl rfl (Y.assign rfl rfl) ?_
        refine TL.nil ?_
        refine TQ.next ?_
        refine TC.seq ?_
        refine TC.region ?_
        refine TL.val rfl rfl rfl (Y.move rfl rfl) ?_
        refine TL.val rfl rfl rfl (Y.bin rfl rfl rfl (br_ne8 (y := 0))) ?_
        refine TL.nil ?_
        refine TQ.next ?_
        refine TC.cond rfl (fun c3 => ?_) (fun c3 => ?_)
        · try simp only [decide_eq_true_eq, decide_eq_false_iff_not, Bool.not_eq_true', Bool.not_eq_false', Bool.and_eq_true, Bool.or_eq_true, Nat.not_lt, Nat.not_le, beq_iff_eq, bne_iff_ne] at c3
          have hbadR := parse_none hb (hI.stuck hl0 (Or.inr ⟨w.getD i 0, by rw [hR]; exact getD_mem0 (by omega), c3⟩))
          refine TC.seq ?_
          refine TC.region ?_
          refine TL.val rfl rfl rfl (Y.buildS rfl rfl pl34 zc34 rfl) ?_
          refine TL.as (.agg zmsg) (by rfl) ?_
          refine TL.eff0 rfl rfl (by first | exact X.storeAll rfl sz34 (by rfl) rfl rfl (allOne (by rfl)) pul (by rfl) | exact X.storeAll rfl sz34 szz rfl rfl (by simp [Value.oneCell']) pul szz | exact X.storeAgg rfl sz34 szz rfl rfl (by simp [Value.oneCell']) pul szz (writeM (by ((try simp only [List.length_set, List.length_map, List.length_append, List.length_replicate]); omega)))) ?_
          rintro _ _ rfl
          refine TL.val rfl rfl rfl (Y.assign rfl rfl) ?_
          refine TL.nil ?_
          refine TQ.next ?_
          refine TC.ret ?_
          refine TQ.block_ret ?_
          refine TQ.then_ret ?_
          refine TQ.then_ret ?_
          refine TQ.block_ret ?_
          refine TQ.then_ret ?_
          refine TQ.block_ret ?_
          refine TQ.then_ret ?_
          refine TQ.block_ret ?_
          refine TQ.then_ret ?_
          refine TQ.retE (resL rfl (Res.agg rfl ag34 (by first | exact Cels.all (cs := zmsg) inn | exact Cels.all (cs := msgC (clsP k) (mthP k) f (.slice ya xs.length yc)) inn) (by first | rfl | assumption | omega) (Res.tmp rfl Res.nil))) ((by first | exact ⟨_, _, _, _, _, xs, 0, rfl, .inl ⟨rfl, hgoodR⟩, rfl⟩ | exact ⟨0, 0, fun _ => 0, none, 0, [], 2, rfl, .inr ⟨rfl, rfl, rfl, rfl, rfl, hbadR⟩, rfl⟩)) ?_
          exact (by first | (have _h := hgoodR; exact ett) | (have _h := hbadR; exact Ent.trans (Ent.nilOwn 73 2) (Ent.trans (Ent.under _ Ent.rdss0) (Ent.trans (Ent.mkOwn (l := ([] : List At)) Pull.here Pull.here rfl rfl rfl) ett))))
        · try simp only [decide_eq_true_eq, decide_eq_false_iff_not, Bool.not_eq_true', Bool.not_eq_false', Bool.and_eq_true, Bool.or_eq_true, Nat.not_lt, Nat.not_le, beq_iff_eq, bne_iff_ne] at c3
          refine TC.skip ?_
          refine TQ.block_normal ?_
          refine TQ.next ?_
          refine TC.region ?_
          refine TL.val rfl rfl rfl (Y.bin rfl rfl rfl (br_addN (n := 1) (by omega))) ?_
          refine TL.val rfl rfl rfl (Y.move rfl rfl) ?_
          refine TL.nil ?_
          refine TQ.loopF (i + 1) (⟨by omega, take_zero hz (by omega) c3⟩) (by omega) ⟨rfl, trivial⟩ (by (repeat first | apply Grow.refl | apply Grow.step | apply Grow.app)) ?_ ?_ ?_
          · kernel_rfl
          · rfl
          · simp only [List.cons_append, List.nil_append]
            exact ett
      · try simp only [decide_eq_true_eq, decide_eq_false_iff_not, Bool.not_eq_true', Bool.not_eq_false', Bool.and_eq_true, Bool.or_eq_true, Nat.not_lt, Nat.not_le, beq_iff_eq, bne_iff_ne] at c2
        refine TC.exit ?_
        refine TQ.then_exit ?_
        refine TQ.then_exit ?_
        refine TQ.block_exit ?_
        refine TQ.next ?_
        obtain rfl : i = w.length := by omega
        rw [List.take_length] at hz
        refine TC.region ?_
        refine TL.val rfl rfl rfl (by first | exact Y.fieldAddrJ rfl fo34_3 rfl nqq | exact Y.fieldAddr rfl fo34_3 rfl nqq) ?_
        refine TL.val rfl rfl rfl (Y.load rfl sc32 rfl celD) ?_
        refine TL.val rfl rfl rfl (Y.loadAgg rfl ag73 rfl (by first | exact Cels.datAt inn (by assumption) | exact Cels.full inn) (by first | rfl | ((try simp only [List.length_map, List.length_set, List.length_replicate]); omega))) ?_
        refine TL.eff rfl rfl rfl (X.litA (bytes := 0) (z := .nilFunc) rfl Try.underlying32 zs73 rfl rfl rfl (by decide) (by decide) (by decide) rfl (cells := [v16 t, .slice a89 v.length c89]) rfl rfl) ?_
        rintro _ _ ⟨g108, rfl, rfl⟩
        refine TL.eff rfl rfl rfl (X.appendS rfl el32 rfl pul rfl (by first | exact Src.owns Try.underlying32 inn | exact Src.rds Try.underlying32 inn | exact Src.reads (by assumption) Try.underlying32 inn) (by simp only [maxLen]; omega) (by omega)) ?_
        rintro _ _ ⟨a109, c109, rfl, rfl⟩
        rw [show Dat.cs xs ++ [v16 t, .slice a89 v.length c89] = Dat.cs (xs ++ [((t, ⟨a89, c89, v⟩) : At)]) from (Dat.cs_app xs [((t, ⟨a89, c89, v⟩) : At)]).symm, show xs.length + 1 = (xs ++ [((t, ⟨a89, c89, v⟩) : At)]).length by simp]
        refine TL.val rfl rfl rfl (by first | exact Y.fieldAddrJ rfl fo34_3 rfl nqq | exact Y.fieldAddr rfl fo34_3 rfl nqq) ?_
        refine TL.eff0 rfl rfl (X.store rfl (by kernel_rfl) rfl rfl rfl pul (by rw [msgC_size]; omega) rfl) ?_
        rintro _ _ rfl
        rw [show (msgC (clsP k) (mthP k) f (.slice ya xs.length yc)).setIfInBounds 14 (.slice a109 (xs ++ [((t, ⟨a89, c89, v⟩) : At)]).length c109) = msgC (clsP k) (mthP k) f (.slice a109 (xs ++ [((t, ⟨a89, c89, v⟩) : At)]).length c109) from rfl]
        refine TL.nil ?_
        refine TQ.block_normal ?_
        refine TQ.to ((Ent.mkAt (t := t) (a := a89) pul rfl).trans (Ent.addEl pul pul)) ?_
        have hI' := hI.step hl0 (by rw [hR]; exact hz) (by rw [hR]; show v.length < 65536; omega) (by rw [hR]; show w4.length ≤ l.length; omega)
        have hd' := LI.dec (l := l) (by rw [hR]; show w4.length ≤ l.length; omega) (by rw [hR]; exact hz)
        rw [hR] at hI' hd'
        refine TQ.loopF ((w4, d4, a109, c109, xs ++ [(t, ⟨a89, c89, v⟩)])) ((by rw [List.map_append]; exact hI')) (hd') trivial (by (repeat first | apply Grow.refl | apply Grow.step | apply Grow.app)) ?_ ?_ ?_
        · kernel_rfl
        · rfl
        · simp only [List.cons_append, List.nil_append]
          exact ett
    · try simp only [decide_eq_true_eq, decide_eq_false_iff_not, Bool.not_eq_true', Bool.not_eq_false', Bool.and_eq_true, Bool.or_eq_true, Nat.not_lt, Nat.not_le, beq_iff_eq, bne_iff_ne] at c1
      refine TC.exit ?_
      refine TQ.then_exit ?_
      refine TQ.then_exit ?_
      refine TQ.block_exit ?_
      refine TQ.next ?_
      refine TC.seq ?_
      refine TC.seq ?_
      refine TC.region ?_
      refine TL.val rfl rfl rfl (Y.move rfl rfl) ?_
      refine TL.eff rfl rfl rfl (X.call rfl Try.func42 (by kernel_rfl) rfl rfl (Fn.preE (by repeat first | (with_reducible apply Ent.refl) | (apply Ent.cons; case h => first | (with_reducible (repeat first | apply Pull.here | apply Pull.there); done) | (repeat first | apply Pull.here | apply Pull.there))) (rd.Bad_fn _ _ _ _))) ?_
      rintro _ _ ⟨rfl, rfl⟩
      refine TL.val rfl rfl rfl (Y.move rfl rfl) ?_
      refine TL.case (fun g19_2 => ?_) (fun g19_2 => ?_)
      · try simp only [decide_eq_true_eq, decide_eq_false_iff_not, Bool.not_eq_true', Bool.not_eq_false', Nat.not_lt, Nat.not_le, beq_iff_eq, bne_iff_ne] at g19_2
        refine TL.not rfl rfl rfl ?_
        refine TL.to (Ent.mkOwn (a := ya) (l := xs) pul pul rfl rfl rfl) ?_
        refine TL.not rfl rfl rfl ?_
        refine TL.not rfl rfl rfl ?_
        refine TL.val rfl rfl rfl (Y.pick_t rfl rfl rfl) ?_
        refine TL.nil ?_
        refine TQ.next ?_
        refine TC.cond_t rfl ?_
        refine TC.seq ?_
        have hbadR : ∀ x : SMsg, x.id.length = 12 → x.build ≠ some b := by
          first
          | exact parse_none hb (hI.no g19_2)
          | exact absurd (c1.symm.trans g19_2) (by decide)
          | (obtain rfl : l = [] := List.eq_nil_of_length_eq_zero (by omega); subst g19_2; exact parse_bad hb hk hI c4)
        refine TC.region ?_
        refine TL.val rfl rfl rfl (Y.buildS rfl rfl pl34 zc34 rfl) ?_
        refine TL.as (.agg zmsg) (by rfl) ?_
        refine TL.eff0 rfl rfl (by first | exact X.storeAll rfl sz34 (by rfl) rfl rfl (allOne (by rfl)) pul (by rfl) | exact X.storeAll rfl sz34 szz rfl rfl (by simp [Value.oneCell']) pul szz | exact X.storeAgg rfl sz34 szz rfl rfl (by simp [Value.oneCell']) pul szz (writeM (by ((try simp only [List.length_set, List.length_map, List.length_append, List.length_replicate]); omega)))) ?_
        rintro _ _ rfl
        refine TL.val rfl rfl rfl (Y.assign rfl rfl) ?_
        refine TL.nil ?_
        refine TQ.next ?_
        refine TC.ret ?_
        refine TQ.then_ret ?_
        refine TQ.retE (resL rfl (Res.agg rfl ag34 (by first | exact Cels.all (cs := zmsg) inn | exact Cels.all (cs := msgC (clsP k) (mthP k) f (.slice ya xs.length yc)) inn) (by first | rfl | assumption | omega) (Res.tmp rfl Res.nil))) ((by first | exact ⟨_, _, _, _, _, xs, 0, rfl, .inl ⟨rfl, hgoodR⟩, rfl⟩ | exact ⟨0, 0, fun _ => 0, none, 0, [], 2, rfl, .inr ⟨rfl, rfl, rfl, rfl, rfl, hbadR⟩, rfl⟩)) ?_
        exact (by first | (have _h := hgoodR; exact ett) | (have _h := hbadR; exact Ent.trans (Ent.nilOwn 73 2) (Ent.trans (Ent.under _ Ent.rdss0) (Ent.trans (Ent.mkOwn (l := ([] : List At)) Pull.here Pull.here rfl rfl rfl) ett))))
      · try simp only [decide_eq_true_eq, decide_eq_false_iff_not, Bool.not_eq_true', Bool.not_eq_false', Nat.not_lt, Nat.not_le, beq_iff_eq, bne_iff_ne] at g19_2
        refine TL.valG rfl rfl rfl (Y.loadAgg rfl ag34 rfl (Cels.all (cs := msgC (clsP k) (mthP k) f (.slice ya xs.length yc)) inn) (by first | rfl | ((try simp only [List.length_map, List.length_set, List.length_replicate]); omega))) ?_
        refine TL.as (.agg (msgC (clsP k) (mthP k) f (.slice ya xs.length yc))) (by rfl) ?_
        refine TL.to (Ent.mkOwn (a := ya) (l := xs) pul pul rfl rfl rfl) ?_
        refine TL.effG rfl rfl rfl (X.call rfl Try.func32 (by kernel_rfl) rfl rfl (Fn.preE (by repeat first | (with_reducible apply Ent.refl) | (apply Ent.cons; case h => first | (with_reducible (repeat first | apply Pull.here | apply Pull.there); done) | (repeat first | apply Pull.here | apply Pull.there))) (stun.good_fn _ _ _ _ _ _ _))) ?_
        rintro _ _ ⟨rfl, rfl⟩
        refine TL.valG rfl rfl rfl (Y.not rfl rfl) ?_
        refine TL.val rfl rfl rfl (Y.pick_f rfl rfl rfl) ?_
        refine TL.nil ?_
        refine TQ.next ?_
        refine TC.cond rfl (fun c4 => ?_) (fun c4 => ?_)
        · try simp only [decide_eq_true_eq, decide_eq_false_iff_not, Bool.not_eq_true', Bool.not_eq_false', Bool.and_eq_true, Bool.or_eq_true, Nat.not_lt, Nat.not_le, beq_iff_eq, bne_iff_ne] at c4
          refine TC.seq ?_
          have hbadR : ∀ x : SMsg, x.id.length = 12 → x.build ≠ some b := by
            first
            | exact parse_none hb (hI.no g19_2)
            | exact absurd (c1.symm.trans g19_2) (by decide)
            | (obtain rfl : l = [] := List.eq_nil_of_length_eq_zero (by omega); subst g19_2; exact parse_bad hb hk hI c4)
          refine TC.region ?_
          refine TL.val rfl rfl rfl (Y.buildS rfl rfl pl34 zc34 rfl) ?_
          refine TL.as (.agg zmsg) (by rfl) ?_
          refine TL.eff0 rfl rfl (by first | exact X.storeAll rfl sz34 (by rfl) rfl rfl (allOne (by rfl)) pul (by rfl) | exact X.storeAll rfl sz34 szz rfl rfl (by simp [Value.oneCell']) pul szz | exact X.storeAgg rfl sz34 szz rfl rfl (by simp [Value.oneCell']) pul szz (writeM (by ((try simp only [List.length_set, List.length_map, List.length_append, List.length_replicate]); omega)))) ?_
          rintro _ _ rfl
          refine TL.val rfl rfl rfl (Y.assign rfl rfl) ?_
          refine TL.nil ?_
          refine TQ.next ?_
          refine TC.ret ?_
          refine TQ.then_ret ?_
          refine TQ.retE (resL rfl (Res.agg rfl ag34 (by first | exact Cels.all (cs := zmsg) inn | exact Cels.all (cs := msgC (clsP k) (mthP k) f (.slice ya xs.length yc)) inn) (by first | rfl | assumption | omega) (Res.tmp rfl Res.nil))) ((by first | exact ⟨_, _, _, _, _, xs, 0, rfl, .inl ⟨rfl, hgoodR⟩, rfl⟩ | exact ⟨0, 0, fun _ => 0, none, 0, [], 2, rfl, .inr ⟨rfl, rfl, rfl, rfl, rfl, hbadR⟩, rfl⟩)) ?_
          exact (by first | (have _h := hgoodR; exact ett) | (have _h := hbadR; exact Ent.trans (Ent.nilOwn 73 2) (Ent.trans (Ent.under _ Ent.rdss0) (Ent.trans (Ent.mkOwn (l := ([] : List At)) Pull.here Pull.here rfl rfl rfl) ett))))
        · try simp only [decide_eq_true_eq, decide_eq_false_iff_not, Bool.not_eq_true', Bool.not_eq_false', Bool.and_eq_true, Bool.or_eq_true, Nat.not_lt, Nat.not_le, beq_iff_eq, bne_iff_ne] at c4
          refine TC.skip ?_
          refine TQ.next ?_
          refine TC.seq ?_
          have hgoodR : (⟨clsP k, mthP k, idL f, xs.map pl⟩ : SMsg).build = some b := by
            first
            | exact absurd (c1.symm.trans g19_2) (by decide)
            | (obtain rfl : l = [] := List.eq_nil_of_length_eq_zero (by omega); subst g19_2; exact parse_yes hb hk hg1 hg2 hg4 hg5 hI c4)
          refine TC.region ?_
          refine TL.val rfl rfl rfl (Y.loadAgg rfl ag34 rfl (Cels.all (cs := msgC (clsP k) (mthP k) f (.slice ya xs.length yc)) inn) (by first | rfl | ((try simp only [List.length_map, List.length_set, List.length_replicate]); omega))) ?_
          refine TL.as (.agg (msgC (clsP k) (mthP k) f (.slice ya xs.length yc))) (by rfl) ?_
          refine TL.eff0 rfl rfl (X.storeAll rfl (by kernel_rfl) (msgC_size _ _ f _) rfl rfl (msg_one _ _ f _ _ _) pul rfl) ?_
          rintro _ _ rfl
          refine TL.val rfl rfl rfl (Y.assign rfl rfl) ?_
          refine TL.nil ?_
          refine TQ.next ?_
          refine TC.ret ?_
          refine TQ.retE (resL rfl (Res.agg rfl ag34 (by first | exact Cels.all (cs := zmsg) inn | exact Cels.all (cs := msgC (clsP k) (mthP k) f (.slice ya xs.length yc)) inn) (by first | rfl | assumption | omega) (Res.tmp rfl Res.nil))) ((by first | exact ⟨_, _, _, _, _, xs, 0, rfl, .inl ⟨rfl, hgoodR⟩, rfl⟩ | exact ⟨0, 0, fun _ => 0, none, 0, [], 2, rfl, .inr ⟨rfl, rfl, rfl, rfl, rfl, hbadR⟩, rfl⟩)) ?_
          exact (by first | (have _h := hgoodR; exact ett) | (have _h := hbadR; exact Ent.trans (Ent.nilOwn 73 2) (Ent.trans (Ent.under _ Ent.rdss0) (Ent.trans (Ent.mkOwn (l := ([] : List At)) Pull.here Pull.here rfl rfl rfl) ett))))
  · try simp only [decide_eq_true_eq, decide_eq_false_iff_not, Bool.not_eq_true', Bool.not_eq_false', Nat.not_lt, Nat.not_le, beq_iff_eq, bne_iff_ne] at g8_3
    refine TL.not rfl rfl rfl ?_
    refine TL.not rfl rfl rfl ?_
    refine TL.not rfl rfl rfl ?_
    refine TL.val rfl rfl rfl (Y.pick_f rfl rfl rfl) ?_
    refine TL.nil ?_
    refine TQ.next ?_
    refine TC.cond_f rfl ?_
    refine TC.exit ?_
    refine TQ.then_exit ?_
    refine TQ.then_exit ?_
    refine TQ.block_exit ?_
    refine TQ.next ?_
    refine TC.seq ?_
    refine TC.seq ?_
    refine TC.region ?_
    refine TL.val rfl rfl rfl (Y.move rfl rfl) ?_
    refine TL.eff rfl rfl rfl (X.call rfl Try.func42 (by kernel_rfl) rfl rfl (Fn.preE (by repeat first | (with_reducible apply Ent.refl) | (apply Ent.cons; case h => first | (with_reducible (repeat first | apply Pull.here | apply Pull.there); done) | (repeat first | apply Pull.here | apply Pull.there))) (rd.Bad_fn _ _ _ _))) ?_
    rintro _ _ ⟨rfl, rfl⟩
    refine TL.val rfl rfl rfl (Y.move rfl rfl) ?_
    refine TL.case (fun g19_2 => ?_) (fun g19_2 => ?_)
    · try simp only [decide_eq_true_eq, decide_eq_false_iff_not, Bool.not_eq_true', Bool.not_eq_false', Nat.not_lt, Nat.not_le, beq_iff_eq, bne_iff_ne] at g19_2
      refine TL.not rfl rfl rfl ?_
      refine TL.to (Ent.mkOwn (a := ya) (l := xs) pul pul rfl rfl rfl) ?_
      refine TL.not rfl rfl rfl ?_
      refine TL.not rfl rfl rfl ?_
      refine TL.val rfl rfl rfl (Y.pick_t rfl rfl rfl) ?_
      refine TL.nil ?_
      refine TQ.next ?_
      refine TC.cond_t rfl ?_
      refine TC.seq ?_
      have hbadR : ∀ x : SMsg, x.id.length = 12 → x.build ≠ some b := by
        first
        | exact parse_none hb (hI.no g19_2)
        | exact absurd (c1.symm.trans g19_2) (by decide)
        | (obtain rfl : l = [] := List.eq_nil_of_length_eq_zero (by omega); subst g19_2; exact parse_bad hb hk hI c4)
      refine TC.region ?_
      refine TL.val rfl rfl rfl (Y.buildS rfl rfl pl34 zc34 rfl) ?_
      refine TL.as (.agg zmsg) (by rfl) ?_
      refine TL.eff0 rfl rfl (by first | exact X.storeAll rfl sz34 (by rfl) rfl rfl (allOne (by rfl)) pul (by rfl) | exact X.storeAll rfl sz34 szz rfl rfl (by simp [Value.oneCell']) pul szz | exact X.storeAgg rfl sz34 szz rfl rfl (by simp [Value.oneCell']) pul szz (writeM (by ((try simp only [List.length_set, List.length_map, List.length_append, List.length_replicate]); omega)))) ?_
      rintro _ _ rfl
      refine TL.val rfl rfl rfl (Y.assign rfl rfl) ?_
      refine TL.nil ?_
      refine TQ.next ?_
      refine TC.ret ?_
      refine TQ.then_ret ?_
      refine TQ.retE (resL rfl (Res.agg rfl ag34 (by first | exact Cels.all (cs := zmsg) inn | exact Cels.all (cs := msgC (clsP k) (mthP k) f (.slice ya xs.length yc)) inn) (by first | rfl | assumption | omega) (Res.tmp rfl Res.nil))) ((by first | exact ⟨_, _, _, _, _, xs, 0, rfl, .inl ⟨rfl, hgoodR⟩, rfl⟩ | exact ⟨0, 0, fun _ => 0, none, 0, [], 2, rfl, .inr ⟨rfl, rfl, rfl, rfl, rfl, hbadR⟩, rfl⟩)) ?_
      exact (by first | (have _h := hgoodR; exact ett) | (have _h := hbadR; exact Ent.trans (Ent.nilOwn 73 2) (Ent.trans (Ent.under _ Ent.rdss0) (Ent.trans (Ent.mkOwn (l := ([] : List At)) Pull.here Pull.here rfl rfl rfl) ett))))
    · try simp only [decide_eq_true_eq, decide_eq_false_iff_not, Bool.not_eq_true', Bool.not_eq_false', Nat.not_lt, Nat.not_le, beq_iff_eq, bne_iff_ne] at g19_2
      refine TL.valG rfl rfl rfl (Y.loadAgg rfl ag34 rfl (Cels.all (cs := msgC (clsP k) (mthP k) f (.slice ya xs.length yc)) inn) (by first | rfl | ((try simp only [List.length_map, List.length_set, List.length_replicate]); omega))) ?_
      refine TL.as (.agg (msgC (clsP k) (mthP k) f (.slice ya xs.length yc))) (by rfl) ?_
      refine TL.to (Ent.mkOwn (a := ya) (l := xs) pul pul rfl rfl rfl) ?_
      refine TL.effG rfl rfl rfl (X.call rfl Try.func32 (by kernel_rfl) rfl rfl (Fn.preE (by repeat first | (with_reducible apply Ent.refl) | (apply Ent.cons; case h => first | (with_reducible (repeat first | apply Pull.here | apply Pull.there); done) | (repeat first | apply Pull.here | apply Pull.there))) (stun.good_fn _ _ _ _ _ _ _))) ?_
      rintro _ _ ⟨rfl, rfl⟩
      refine TL.valG rfl rfl rfl (Y.not rfl rfl) ?_
      refine TL.val rfl rfl rfl (Y.pick_f rfl rfl rfl) ?_
      refine TL.nil ?_
      refine TQ.next ?_
      refine TC.cond rfl (fun c4 => ?_) (fun c4 => ?_)
      · try simp only [decide_eq_true_eq, decide_eq_false_iff_not, Bool.not_eq_true', Bool.not_eq_false', Bool.and_eq_true, Bool.or_eq_true, Nat.not_lt, Nat.not_le, beq_iff_eq, bne_iff_ne] at c4
        refine TC.seq ?_
        have hbadR : ∀ x : SMsg, x.id.length = 12 → x.build ≠ some b := by
          first
          | exact parse_none hb (hI.no g19_2)
          | exact absurd (c1.symm.trans g19_2) (by decide)
          | (obtain rfl : l = [] := List.eq_nil_of_length_eq_zero (by omega); subst g19_2; exact parse_bad hb hk hI c4)
        refine TC.region ?_
        refine TL.val rfl rfl rfl (Y.buildS rfl rfl pl34 zc34 rfl) ?_
        refine TL.as (.agg zmsg) (by rfl) ?_
        refine TL.eff0 rfl rfl (by first | exact X.storeAll rfl sz34 (by rfl) rfl rfl (allOne (by rfl)) pul (by rfl) | exact X.storeAll rfl sz34 szz rfl rfl (by simp [Value.oneCell']) pul szz | exact X.storeAgg rfl sz34 szz rfl rfl (by simp [Value.oneCell']) pul szz (writeM (by ((try simp only [List.length_set, List.length_map, List.length_append, List.length_replicate]); omega)))) ?_
        rintro _ _ rfl
        refine TL.val rfl rfl rfl (Y.assign rfl rfl) ?_
        refine TL.nil ?_
        refine TQ.next ?_
        refine TC.ret ?_
        refine TQ.then_ret ?_
        refine TQ.retE (resL rfl (Res.agg rfl ag34 (by first | exact Cels.all (cs := zmsg) inn | exact Cels.all (cs := msgC (clsP k) (mthP k) f (.slice ya xs.length yc)) inn) (by first | rfl | assumption | omega) (Res.tmp rfl Res.nil))) ((by first | exact ⟨_, _, _, _, _, xs, 0, rfl, .inl ⟨rfl, hgoodR⟩, rfl⟩ | exact ⟨0, 0, fun _ => 0, none, 0, [], 2, rfl, .inr ⟨rfl, rfl, rfl, rfl, rfl, hbadR⟩, rfl⟩)) ?_
        exact (by first | (have _h := hgoodR; exact ett) | (have _h := hbadR; exact Ent.trans (Ent.nilOwn 73 2) (Ent.trans (Ent.under _ Ent.rdss0) (Ent.trans (Ent.mkOwn (l := ([] : List At)) Pull.here Pull.here rfl rfl rfl) ett))))
      · try simp only [decide_eq_true_eq, decide_eq_false_iff_not, Bool.not_eq_true', Bool.not_eq_false', Bool.and_eq_true, Bool.or_eq_true, Nat.not_lt, Nat.not_le, beq_iff_eq, bne_iff_ne] at c4
        refine TC.skip ?_
        refine TQ.next ?_
        refine TC.seq ?_
        have hgoodR : (⟨clsP k, mthP k, idL f, xs.map pl⟩ : SMsg).build = some b := by
          first
          | exact absurd (c1.symm.trans g19_2) (by decide)
          | (obtain rfl : l = [] := List.eq_nil_of_length_eq_zero (by omega); subst g19_2; exact parse_yes hb hk hg1 hg2 hg4 hg5 hI c4)
        refine TC.region ?_
        refine TL.val rfl rfl rfl (Y.loadAgg rfl ag34 rfl (Cels.all (cs := msgC (clsP k) (mthP k) f (.slice ya xs.length yc)) inn) (by first | rfl | ((try simp only [List.length_map, List.length_set, List.length_replicate]); omega))) ?_
        refine TL.as (.agg (msgC (clsP k) (mthP k) f (.slice ya xs.length yc))) (by rfl) ?_
        refine TL.eff0 rfl rfl (X.storeAll rfl (by kernel_rfl) (msgC_size _ _ f _) rfl rfl (msg_one _ _ f _ _ _) pul rfl) ?_
        rintro _ _ rfl
        refine TL.val rfl rfl rfl (Y.assign rfl rfl) ?_
        refine TL.nil ?_
        refine TQ.next ?_
        refine TC.ret ?_
        refine TQ.retE (resL rfl (Res.agg rfl ag34 (by first | exact Cels.all (cs := zmsg) inn | exact Cels.all (cs := msgC (clsP k) (mthP k) f (.slice ya xs.length yc)) inn) (by first | rfl | assumption | omega) (Res.tmp rfl Res.nil))) ((by first | exact ⟨_, _, _, _, _, xs, 0, rfl, .inl ⟨rfl, hgoodR⟩, rfl⟩ | exact ⟨0, 0, fun _ => 0, none, 0, [], 2, rfl, .inr ⟨rfl, rfl, rfl, rfl, rfl, hbadR⟩, rfl⟩)) ?_
        exact (by first | (have _h := hgoodR; exact ett) | (have _h := hbadR; exact Ent.trans (Ent.nilOwn 73 2) (Ent.trans (Ent.under _ Ent.rdss0) (Ent.trans (Ent.mkOwn (l := ([] : List At)) Pull.here Pull.here rfl rfl rfl) ett))))
theorem Ent.dat0 {L : List SA} : Ent L (SA.dat (⟨none, 0, []⟩ : Sl At) :: L) :=
  Ent.trans (Ent.nilOwn 73 2) (Ent.trans (Ent.under _ Ent.rdss0) (Ent.mkOwn (l := ([] : List At)) Pull.here Pull.here rfl rfl rfl))
--REG rostrum/stun.Parse : _ _ ⟨pc{d}, pm{d}, pf{d}, pa{d}, pcap{d}, pl{d}, pe{d}, rfl, hP{d}, rfl⟩ => (stun.Parse_fn _ _ _ _ (by first | assumption | rfl) (by omega) _)
theorem Parse_fn (a : Option Addr) (n cap : Nat) (b : List UInt8) (hn : b.length = n) (hr : n ≤ 140737488351232) (L : List SA) :
    Fn Try.prog 14 [.slice a n cap] (SA.rds 1 (.slice a n cap) n (b.map v8) :: L)
      (fun v L' => ∃ c m f' a' cap' l' e, v = .tuple #[.agg (msgC c m f' (.slice a' (l' : List At).length cap')), vN e] ∧ PR b c m f' (l'.map pl) e ∧ L' = SA.dat (⟨a', cap', l'⟩ : Sl At) :: SA.rds 1 (.slice a n cap) n (b.map v8) :: L) := by
  have no : (∀ x : SMsg, x.id.length = 12 → x.build ≠ some b) → Fn Try.prog 14 [.slice a n cap] (SA.rds 1 (.slice a n cap) n (b.map v8) :: L) (fun v L' => v = .tuple #[.agg zmsg, vN 2] ∧ L' = SA.rds 1 (.slice a n cap) n (b.map v8) :: L) →
      Fn Try.prog 14 [.slice a n cap] (SA.rds 1 (.slice a n cap) n (b.map v8) :: L)
      (fun v L' => ∃ c m f' a' cap' l' e, v = .tuple #[.agg (msgC c m f' (.slice a' (l' : List At).length cap')), vN e] ∧ PR b c m f' (l'.map pl) e ∧ L' = SA.dat (⟨a', cap', l'⟩ : Sl At) :: SA.rds 1 (.slice a n cap) n (b.map v8) :: L) := fun h hf =>
    hf.mono fun v L' ⟨hv, hL⟩ => ⟨_, Ent.dat0, 0, 0, fun _ => 0, none, 0, [], 2, hv, .inr ⟨rfl, rfl, rfl, rfl, rfl, h⟩, by rw [hL]⟩
  by_cases hs : b.length < 20
  · exact no (fun x hx e => by have := build_len hx e; omega) (Parse_short a n cap b hn hs L)
  · obtain ⟨k0, k1, n0, n1, m0, m1, m2, m3, f, rest, hb⟩ := header (b := b) (by omega)
    by_cases hbad : 16384 ≤ k0.toNat * 256 + k1.toNat ∨ n0.toNat * 256 + n1.toNat ≠ rest.length ∨ rest.length % 4 ≠ 0 ∨ num [m0, m1, m2, m3] ≠ 554869826 ∨ 1500 < b.length
    · refine no (fun x hx e => ?_) (Parse_bad k0 k1 n0 n1 m0 m1 m2 m3 f rest a n cap b hb hn hr hbad L)
      have hbl := congrArg List.length hb
      rw [hb] at e
      obtain ⟨g, h1, h2, h3, h4, h5, h6⟩ := build_head hx e
      obtain ⟨g1, g2, g3, g4, g5, g6⟩ := good_parts g
      have hk := (kind_of x.cls.toNat x.mth.toNat (by omega) (by omega)).2.2.2.2
      have hm := enc_mod x.attrs
      rw [h5] at hm h2
      have hq : num [m0, m1, m2, m3] = 554869826 := by rw [h3]; decide
      simp at hbl
      rcases hbad with h | h | h | h | h
      · omega
      · omega
      · omega
      · exact h hq
      · omega
    · simp only [not_or, Nat.not_le, Nat.not_lt, ne_eq, Classical.not_not] at hbad
      exact Parse_ok k0 k1 n0 n1 m0 m1 m2 m3 f rest a n cap b hb hn hr hbad.1 hbad.2.1 hbad.2.2.1 hbad.2.2.2.1 hbad.2.2.2.2 L
end stun
end Go.Proofs.Ytggammbhmoippaa
