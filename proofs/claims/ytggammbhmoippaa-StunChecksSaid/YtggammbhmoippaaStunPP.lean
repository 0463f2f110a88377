/- stun.Parse, walked. -/
import Derived.Test.YtggammbhmoippaaStunP
import Derived.Test.YtggammbhmoippaaHAuto
namespace Go.Proofs.Ytggammbhmoippaa
set_option linter.unusedVariables false
set_option linter.unusedSimpArgs false
open Go.RowKit
namespace stun
open wr (pad4 pad4_length pad4_mod pad4_head pad4_step pad4_done be16 be32)
open r1 (be2 be4 be2_len be4_len)
open rd (rdB rdL rdV num num1)
namespace FxStunPP
set_option maxRecDepth 100000
theorem ag34 : Program.aggN Try.prog 34 = some 15 := by kernel_rfl
theorem fo34_2 : Program.fieldOff Try.prog 34 2 = some 2 := by kernel_rfl
theorem pl34 : Program.places Try.prog 34 = some [(0, 1), (1, 1), (2, 12), (14, 1)] := by kernel_rfl
theorem sz34 : (Try.prog.info? 34).map (·.size) = some 15 := by kernel_rfl
theorem sz5 : (Try.prog.info? 5).map (·.size) = some 1 := by kernel_rfl
theorem zc34 : Program.zeroC Try.prog 34 = some #[.int .i64 0, .int .i64 0, .int .u8 0, .int .u8 0, .int .u8 0, .int .u8 0, .int .u8 0, .int .u8 0, .int .u8 0, .int .u8 0, .int .u8 0, .int .u8 0, .int .u8 0, .int .u8 0, .slice none 0 0] := by kernel_rfl
end FxStunPP
open FxStunPP
/-- what reading bytes comes to -/
def PR (b : List UInt8) (c m : Int) (f : Nat → UInt8) (l : List PA) (e : Nat) : Prop :=
  (e = 0 ∧ (⟨c, m, idL f, l⟩ : SMsg).build = some b) ∨ (e = 2 ∧ c = 0 ∧ m = 0 ∧ f = (fun _ => 0) ∧ l = [] ∧ ∀ x : SMsg, x.id.length = 12 → x.build ≠ some b)
theorem build_len {x : SMsg} {b : List UInt8} (hx : x.id.length = 12) (h : x.build = some b) : 20 ≤ b.length := by
  obtain ⟨-, -, rfl⟩ := (build_iff x b).1 h
  simp [hx, be2, magicB, be4]
theorem short_bad (b : List UInt8) (h : b.length < 20) : ∀ l1 l2 l3 b1 b2 b3, l1 = rdL 2 b false → b1 = rdB 2 b false → l2 = rdL 2 l1 b1 → b2 = rdB 2 l1 b1 → l3 = rdL 4 l2 b2 → b3 = rdB 4 l2 b2 → rdB 12 l3 b3 = true := by
  rintro l1 l2 l3 b1 b2 b3 rfl rfl rfl rfl rfl rfl
  cases hq : rdB 12 (rdL 4 (rdL 2 (rdL 2 b false) (rdB 2 b false)) (rdB 2 (rdL 2 b false) (rdB 2 b false))) (rdB 4 (rdL 2 (rdL 2 b false) (rdB 2 b false)) (rdB 2 (rdL 2 b false) (rdB 2 b false))) with
  | true => rfl
  | false =>
    obtain ⟨e4, n4⟩ := rd_app hq
    have h3 := (rdB_eq hq).1
    obtain ⟨e3, n3⟩ := rd_app h3
    have h2 := (rdB_eq h3).1
    obtain ⟨e2, n2⟩ := rd_app h2
    have h1 := (rdB_eq h2).1
    obtain ⟨e1, n1⟩ := rd_app h1
    have l4 := congrArg List.length e4
    have l3 := congrArg List.length e3
    have l2 := congrArg List.length e2
    have l1 := congrArg List.length e1
    rw [List.length_append] at l1 l2 l3 l4
    omega
abbrev zmsg : Array Value := msgC 0 0 (fun _ => 0) (.slice none 0 0)
set_option maxHeartbeats 1000000 in
theorem Parse_short (a : Option Addr) (n cap : Nat) (b : List UInt8) (hn : b.length = n) (hs : b.length < 20) (L : List SA) :
    Fn Try.prog 14 [.slice a n cap] (SA.rds 1 (.slice a n cap) n (b.map v8) :: L)
      (fun v L' => v = .tuple #[.agg zmsg, vN 2] ∧ L' = SA.rds 1 (.slice a n cap) n (b.map v8) :: L) := by
  refine Fn.of (N := 120) Try.func14 rfl rfl ?_
  intro Xh
  refine TC.seq ?_
  refine TC.region ?_
  refine TL.eff rfl rfl rfl (X.alloc rfl zc34) ?_
  rintro _ _ ⟨b2, rfl, rfl⟩
  refine TL.val rfl rfl rfl (Y.assign rfl rfl) ?_
  refine TL.nil ?_
  refine TQ.next ?_
  refine TC.seq ?_
  refine TC.region ?_
  refine TL.val rfl rfl rfl (Y.move rfl rfl) ?_
  refine TL.eff rfl rfl rfl (X.call rfl Try.func38 (by kernel_rfl) rfl rfl (Fn.preE (by repeat first | (with_reducible apply Ent.refl) | (apply Ent.cons; case h => first | (with_reducible (repeat first | apply Pull.here | apply Pull.there); done) | (repeat first | apply Pull.here | apply Pull.there))) (rd.New_fn _ _ _ _ (by first | assumption | rfl) (by omega) _))) ?_
  rintro _ _ ⟨p14, rfl, rfl⟩
  refine TL.val rfl rfl rfl (Y.assign rfl rfl) ?_
  refine TL.nil ?_
  refine TQ.next ?_
  refine TC.seq ?_
  refine TC.region ?_
  refine TL.val rfl rfl rfl (Y.move rfl rfl) ?_
  refine TL.eff rfl rfl rfl (X.call rfl Try.func39 (by kernel_rfl) rfl rfl (Fn.preE (by repeat first | (with_reducible apply Ent.refl) | (apply Ent.cons; case h => first | (with_reducible (repeat first | apply Pull.here | apply Pull.there); done) | (repeat first | apply Pull.here | apply Pull.there))) (rd.U16_fn _ _ _ _))) ?_
  rintro _ _ ⟨rfl, rfl⟩
  refine TL.val rfl rfl rfl (Y.conv rfl Try.underlying44 Try.underlying3 rfl (cv_16_N)) ?_
  refine TL.val rfl rfl rfl (Y.assign rfl rfl) ?_
  refine TL.nil ?_
  refine TQ.next ?_
  refine TC.seq ?_
  generalize hn : (num (rdV 2 b false)).toUInt16.toNat = k
  have hk : k < 65536 := by rw [← hn]; exact UInt16.toNat_lt _
  have q1 : k / 16 &&& 1 ≤ 1 := Nat.and_le_right
  have q2 : k / 128 &&& 2 ≤ 2 := Nat.and_le_right
  have q3 : k &&& 15 ≤ 15 := Nat.and_le_right
  have q4 : k / 2 &&& 112 ≤ 112 := Nat.and_le_right
  have q5 : k / 4 &&& 3968 ≤ 3968 := Nat.and_le_right
  have o1 : k &&& 15 ||| k / 2 &&& 112 < 16384 := Nat.or_lt_two_pow (n := 14) (by omega) (by omega)
  refine TC.region ?_
  refine TL.val rfl rfl rfl (Y.move rfl rfl) ?_
  refine TL.val rfl rfl rfl (Y.bin rfl rfl rfl (br_shrN (n := 4) (c := 16) rfl (by omega))) ?_
  refine TL.val rfl rfl rfl (Y.bin rfl rfl rfl (br_andN (n := 1) (by omega) (by omega))) ?_
  refine TL.val rfl rfl rfl (Y.move rfl rfl) ?_
  refine TL.val rfl rfl rfl (Y.bin rfl rfl rfl (br_shrN (n := 7) (c := 128) rfl (by omega))) ?_
  refine TL.val rfl rfl rfl (Y.bin rfl rfl rfl (br_andN (n := 2) (by omega) (by omega))) ?_
  refine TL.val rfl rfl rfl (Y.bin rfl rfl rfl (br_orN (by omega) (by omega))) ?_
  refine TL.val rfl rfl rfl (Y.move rfl rfl) ?_
  refine TL.val rfl rfl rfl (Y.bin rfl rfl rfl (br_andN (n := 15) (by omega) (by omega))) ?_
  refine TL.val rfl rfl rfl (Y.move rfl rfl) ?_
  refine TL.val rfl rfl rfl (Y.bin rfl rfl rfl (br_shrN (n := 1) (c := 2) rfl (by omega))) ?_
  refine TL.val rfl rfl rfl (Y.bin rfl rfl rfl (br_andN (n := 112) (by omega) (by omega))) ?_
  refine TL.val rfl rfl rfl (Y.bin rfl rfl rfl (br_orN (by omega) (by omega))) ?_
  refine TL.val rfl rfl rfl (Y.move rfl rfl) ?_
  refine TL.val rfl rfl rfl (Y.bin rfl rfl rfl (br_shrN (n := 2) (c := 4) rfl (by omega))) ?_
  refine TL.val rfl rfl rfl (Y.bin rfl rfl rfl (br_andN (n := 3968) (by omega) (by omega))) ?_
  refine TL.val rfl rfl rfl (Y.bin rfl rfl rfl (br_orN (by omega) (by omega))) ?_
  refine TL.val rfl rfl rfl (Y.buildS (cells := msgC (clsP k) (mthP k) (fun _ => 0) (.slice none 0 0)) rfl rfl pl34 zc34 (by kernel_rfl)) ?_
  refine TL.eff rfl rfl rfl (X.alloc rfl zc34) ?_
  rintro _ _ ⟨b6, rfl, rfl⟩
  refine TL.eff0 rfl rfl (by first | exact X.storeAll rfl sz34 (by rfl) rfl rfl (allOne (by rfl)) pul (by rfl) | exact X.storeAll rfl sz34 szz rfl rfl (by simp [Value.oneCell']) pul szz | exact X.storeAgg rfl sz34 szz rfl rfl (by simp [Value.oneCell']) pul szz (writeM (by ((try simp only [List.length_set, List.length_map, List.length_append, List.length_replicate]); omega)))) ?_
  rintro _ _ rfl
  refine TL.nil ?_
  refine TQ.next ?_
  refine TC.seq ?_
  refine TC.region ?_
  refine TL.val rfl rfl rfl (Y.move rfl rfl) ?_
  refine TL.eff rfl rfl rfl (X.call rfl Try.func39 (by kernel_rfl) rfl rfl (Fn.preE (by repeat first | (with_reducible apply Ent.refl) | (apply Ent.cons; case h => first | (with_reducible (repeat first | apply Pull.here | apply Pull.there); done) | (repeat first | apply Pull.here | apply Pull.there))) (rd.U16_fn _ _ _ _))) ?_
  rintro _ _ ⟨rfl, rfl⟩
  refine TL.val rfl rfl rfl (Y.conv rfl Try.underlying44 Try.underlying3 rfl (cv_16_N)) ?_
  refine TL.val rfl rfl rfl (Y.move rfl rfl) ?_
  refine TL.eff rfl rfl rfl (X.call rfl Try.func40 (by kernel_rfl) rfl rfl (Fn.preE (by repeat first | (with_reducible apply Ent.refl) | (apply Ent.cons; case h => first | (with_reducible (repeat first | apply Pull.here | apply Pull.there); done) | (repeat first | apply Pull.here | apply Pull.there))) (rd.U32_fn _ _ _ _))) ?_
  rintro _ _ ⟨rfl, rfl⟩
  refine TL.val rfl rfl rfl (Y.assign rfl rfl) ?_
  refine TL.val rfl rfl rfl (Y.assign rfl rfl) ?_
  refine TL.nil ?_
  refine TQ.next ?_
  refine TC.seq ?_
  have hsb := short_bad b hs _ _ _ _ _ _ rfl rfl rfl rfl rfl rfl
  have hl1 := rd.rdL_len 2 b false
  have hl2 := rd.rdL_len 2 (rdL 2 b false) (rdB 2 b false)
  have hl3 := rd.rdL_len 4 (rdL 2 (rdL 2 b false) (rdB 2 b false)) (rdB 2 (rdL 2 b false) (rdB 2 b false))
  generalize rdB 4 (rdL 2 (rdL 2 b false) (rdB 2 b false)) (rdB 2 (rdL 2 b false) (rdB 2 b false)) = b3 at *
  generalize rdL 4 (rdL 2 (rdL 2 b false) (rdB 2 b false)) (rdB 2 (rdL 2 b false) (rdB 2 b false)) = l3 at *
  have hv : rdV 12 l3 b3 = [] := by simp [rdV, hsb]
  refine TC.draws 4 [] (by kernel_rfl) (by kernel_rfl) (by repeat first | exact holds_nil | refine holds_cons inn ?_) ?_
  refine TA.takeP 0 rfl rfl rfl rfl (by kernel_rfl) (by kernel_rfl) (by kernel_rfl) rfl (fun _ _ _ h => h) (by first | exact Y.fieldAddrJ rfl fo34_2 rfl nqq | exact Y.fieldAddr rfl fo34_2 rfl nqq) ?_
  refine TA.take 1 rfl rfl rfl rfl (by kernel_rfl) (by kernel_rfl) (by kernel_rfl) rfl (by kernel_rfl) (by kernel_rfl) (fun _ _ _ h => h) (Y.sliceArr rfl Try.underlying22 sz5 rfl) ?_
  refine TA.takeP 2 rfl rfl rfl rfl (by kernel_rfl) (by kernel_rfl) (by kernel_rfl) rfl (fun _ _ _ h => h) (Y.move rfl rfl) ?_
  refine TA.one 3 (by kernel_rfl) rfl rfl rfl rfl (X.call rfl Try.func41 (by kernel_rfl) rfl rfl (Fn.preE (by repeat first | (with_reducible apply Ent.refl) | (apply Ent.cons; case h => first | (with_reducible (repeat first | apply Pull.here | apply Pull.there); done) | (repeat first | apply Pull.here | apply Pull.there))) (rd.Take_fn _ 12 _ _ (by omega) (by omega) _))) ?_
  rintro _ _ ⟨a44, c44, rfl, rfl⟩
  rw [hv, hsb]
  refine ⟨(Or.inr (by repeat first | exact holds_nil | refine holds_cons inn ?_)), ?_⟩
  refine TA.one 4 (by kernel_rfl) rfl rfl rfl rfl (X.copyBlk (cs := msgC (clsP k) (mthP k) (fun _ => 0) (.slice none 0 0)) (news := ([] : List UInt8).map v8) (m := ([] : List UInt8).length) (sz := 1) rfl Try.underlying27 (by kernel_rfl) rfl rfl (Src.owns Try.underlying27 inn) pul (by simp) (by simp [msgC]) (by rfl)) ?_
  rintro _ _ ⟨rfl, rfl⟩
  refine ⟨(Or.inl (by kernel_rfl)), ?_⟩
  refine TA.done (by kernel_rfl) ?_
  refine TQ.next ?_
  refine TC.seq ?_
  refine TC.seq ?_
  refine TC.region ?_
  refine TL.val rfl rfl rfl (Y.move rfl rfl) ?_
  refine TL.eff rfl rfl rfl (X.call rfl Try.func42 (by kernel_rfl) rfl rfl (Fn.preE (by repeat first | (with_reducible apply Ent.refl) | (apply Ent.cons; case h => first | (with_reducible (repeat first | apply Pull.here | apply Pull.there); done) | (repeat first | apply Pull.here | apply Pull.there))) (rd.Bad_fn _ _ _ _))) ?_
  rintro _ _ ⟨rfl, rfl⟩
  refine TL.val rfl rfl rfl (Y.move rfl rfl) ?_
  refine TL.not rfl rfl rfl ?_
  refine TL.not rfl rfl rfl ?_
  refine TL.val rfl rfl rfl (Y.pick_t rfl rfl rfl) ?_
  refine TL.val rfl rfl rfl (Y.move rfl rfl) ?_
  refine TL.not rfl rfl rfl ?_
  refine TL.not rfl rfl rfl ?_
  refine TL.not rfl rfl rfl ?_
  refine TL.not rfl rfl rfl ?_
  refine TL.val rfl rfl rfl (Y.pick_t rfl rfl rfl) ?_
  refine TL.val rfl rfl rfl (Y.move rfl rfl) ?_
  refine TL.not rfl rfl rfl ?_
  refine TL.not rfl rfl rfl ?_
  refine TL.not rfl rfl rfl ?_
  refine TL.val rfl rfl rfl (Y.pick_t rfl rfl rfl) ?_
  refine TL.val rfl rfl rfl (Y.move rfl rfl) ?_
  refine TL.not rfl rfl rfl ?_
  refine TL.not rfl rfl rfl ?_
  refine TL.val rfl rfl rfl (Y.pick_t rfl rfl rfl) ?_
  refine TL.val rfl rfl rfl (Y.move rfl rfl) ?_
  refine TL.not rfl rfl rfl ?_
  refine TL.not rfl rfl rfl ?_
  refine TL.not rfl rfl rfl ?_
  refine TL.val rfl rfl rfl (Y.pick_t rfl rfl rfl) ?_
  refine TL.nil ?_
  refine TQ.next ?_
  refine TC.cond_t rfl ?_
  refine TC.seq ?_
  refine TC.region ?_
  refine TL.val rfl rfl rfl (Y.buildS rfl rfl pl34 zc34 rfl) ?_
  refine TL.as (.agg zmsg) (by rfl) ?_
  refine TL.eff0 rfl rfl (by first | exact X.storeAll rfl sz34 (by rfl) rfl rfl (allOne (by rfl)) pul (by rfl) | exact X.storeAll rfl sz34 szz rfl rfl (by simp [Value.oneCell']) pul szz | exact X.storeAgg rfl sz34 szz rfl rfl (by simp [Value.oneCell']) pul szz (writeM (by ((try simp only [List.length_set, List.length_map, List.length_append, List.length_replicate]); omega)))) ?_
  rintro _ _ rfl
  refine TL.val rfl rfl rfl (Y.assign rfl rfl) ?_
  refine TL.nil ?_
  refine TQ.next ?_
  refine TC.ret ?_
  refine TQ.then_ret ?_
  refine TQ.retE (resL rfl (Res.agg rfl ag34 (Cels.all (cs := zmsg) inn) (by first | rfl | assumption | omega) (Res.tmp rfl Res.nil))) (⟨rfl, rfl⟩) ?_
  exact ett
theorem idL_get (bs : List UInt8) (h : bs.length = 12) : idL (fun i => bs.getD i 0) = bs := by
  match bs, h with
  | [b0, b1, b2, b3, b4, b5, b6, b7, b8, b9, b10, b11], _ => rfl
theorem eight {l : List UInt8} (h : l.length = 8) : ∃ k0 k1 n0 n1 c0 c1 c2 c3, l = [k0, k1, n0, n1, c0, c1, c2, c3] := by
  match l, h with
  | [k0, k1, n0, n1, c0, c1, c2, c3], _ => exact ⟨k0, k1, n0, n1, c0, c1, c2, c3, rfl⟩
theorem header {b : List UInt8} (h : 20 ≤ b.length) : ∃ k0 k1 n0 n1 c0 c1 c2 c3 f rest, b = [k0, k1, n0, n1, c0, c1, c2, c3] ++ (idL f ++ rest) := by
  obtain ⟨k0, k1, n0, n1, c0, c1, c2, c3, h8⟩ := eight (l := b.take 8) (by rw [List.length_take]; omega)
  have h12 := idL_get ((b.drop 8).take 12) (by rw [List.length_take, List.length_drop]; omega)
  refine ⟨k0, k1, n0, n1, c0, c1, c2, c3, fun i => ((b.drop 8).take 12).getD i 0, b.drop 20, ?_⟩
  rw [h12, ← h8, show b.drop 20 = (b.drop 8).drop 12 by rw [List.drop_drop], List.take_append_drop, List.take_append_drop]
/-- what a message's bytes say of its head -/
theorem build_head {x : SMsg} {k0 k1 n0 n1 c0 c1 c2 c3 : UInt8} {f : Nat → UInt8} {rest : List UInt8} (hx : x.id.length = 12) (h : x.build = some ([k0, k1, n0, n1, c0, c1, c2, c3] ++ (idL f ++ rest))) :
    x.good = true ∧ kindOf x.cls.toNat x.mth.toNat = k0.toNat * 256 + k1.toNat ∧ (enc x.attrs).length = n0.toNat * 256 + n1.toNat ∧ [c0, c1, c2, c3] = magicB ∧ x.id = idL f ∧ enc x.attrs = rest ∧ 20 + rest.length ≤ 1500 := by
  obtain ⟨hg, hl, he⟩ := (build_iff x _).1 h
  obtain ⟨g1, g2, g3, g4, g5, g6⟩ := good_parts hg
  have hk := kindOf_lt x.cls.toNat x.mth.toNat (by omega) (by omega)
  have e1 : be2 (kindOf x.cls.toNat x.mth.toNat) ++ (be2 (enc x.attrs).length ++ (magicB ++ (x.id ++ enc x.attrs))) = [k0, k1] ++ ([n0, n1] ++ ([c0, c1, c2, c3] ++ (idL f ++ rest))) := by
    simpa only [List.append_assoc, List.cons_append, List.nil_append] using he.symm
  obtain ⟨a1, e1⟩ := app4 e1 rfl
  obtain ⟨a2, e1⟩ := app4 e1 rfl
  obtain ⟨a3, e1⟩ := app4 e1 rfl
  obtain ⟨a4, e1⟩ := app4 e1 (by rw [hx]; rfl)
  have hk0 := k0.toNat_lt; have hk1 := k1.toNat_lt; have hn0 := n0.toNat_lt; have hn1 := n1.toNat_lt
  have hlen : (enc x.attrs).length < 65536 := by
    have := congrArg List.length he
    simp at this hl
    rw [← e1] at hl
    omega
  refine ⟨hg, be2_inj hk (by omega) (by rw [a1, be2_num2]), be2_inj hlen (by omega) (by rw [a2, be2_num2]), a3.symm, a4, e1, ?_⟩
  simp at hl
  omega
/-- the reader's first steps, where there is enough -/
theorem steps20 (k0 k1 n0 n1 c0 c1 c2 c3 : UInt8) (f : Nat → UInt8) (rest : List UInt8) (b : List UInt8) (hb : b = [k0, k1, n0, n1, c0, c1, c2, c3] ++ (idL f ++ rest)) :
    (rdV 2 b false = [k0, k1] ∧ rdL 2 b false = [n0, n1, c0, c1, c2, c3] ++ (idL f ++ rest) ∧ rdB 2 b false = false) ∧
    (rdV 2 ([n0, n1, c0, c1, c2, c3] ++ (idL f ++ rest)) false = [n0, n1] ∧ rdL 2 ([n0, n1, c0, c1, c2, c3] ++ (idL f ++ rest)) false = [c0, c1, c2, c3] ++ (idL f ++ rest) ∧ rdB 2 ([n0, n1, c0, c1, c2, c3] ++ (idL f ++ rest)) false = false) ∧
    (rdV 4 ([c0, c1, c2, c3] ++ (idL f ++ rest)) false = [c0, c1, c2, c3] ∧ rdL 4 ([c0, c1, c2, c3] ++ (idL f ++ rest)) false = idL f ++ rest ∧ rdB 4 ([c0, c1, c2, c3] ++ (idL f ++ rest)) false = false) ∧
    (rdV 12 (idL f ++ rest) false = idL f ∧ rdL 12 (idL f ++ rest) false = rest ∧ rdB 12 (idL f ++ rest) false = false) := by
  subst hb
  refine ⟨⟨?_, ?_, ?_⟩, ⟨?_, ?_, ?_⟩, ⟨?_, ?_, ?_⟩, ⟨?_, ?_, ?_⟩⟩
  all_goals first
    | (rw [rdV_ok (by simp)]; rfl)
    | (rw [rdL_ok (by simp)]; rfl)
    | exact rdB_ok (by simp)
set_option maxHeartbeats 2000000 in
theorem Parse_bad (k0 k1 n0 n1 c0 c1 c2 c3 : UInt8) (f : Nat → UInt8) (rest : List UInt8) (a : Option Addr) (n cap : Nat) (b : List UInt8) (hb : b = [k0, k1, n0, n1, c0, c1, c2, c3] ++ (idL f ++ rest)) (hn : b.length = n) (hr : n ≤ 140737488351232)
    (hbad : 16384 ≤ k0.toNat * 256 + k1.toNat ∨ n0.toNat * 256 + n1.toNat ≠ rest.length ∨ rest.length % 4 ≠ 0 ∨ num [c0, c1, c2, c3] ≠ 554869826 ∨ 1500 < b.length) (L : List SA) :
    Fn Try.prog 14 [.slice a n cap] (SA.rds 1 (.slice a n cap) n (b.map v8) :: L)
      (fun v L' => v = .tuple #[.agg zmsg, vN 2] ∧ L' = SA.rds 1 (.slice a n cap) n (b.map v8) :: L) := by
  have hbl : b.length = 20 + rest.length := by rw [hb]; simp; omega
  obtain ⟨⟨v1, l1, b1⟩, ⟨v2, l2, b2'⟩, ⟨v3, l3, b3⟩, ⟨v4, l4, b4⟩⟩ := steps20 k0 k1 n0 n1 c0 c1 c2 c3 f rest b hb
  have hk0 := k0.toNat_lt
  have hk1 := k1.toNat_lt
  have hn0 := n0.toNat_lt
  have hn1 := n1.toNat_lt
  refine Fn.of (N := 120) Try.func14 rfl rfl ?_
  intro Xh
  refine TC.know (reads_cap Reads.rds (a := a) (n := n) (cap := cap) (cs := b.map v8) inn) ?_
  rintro ⟨hc1, hc2, -, -⟩
  simp only [maxLen] at hc2
  refine TC.seq ?_
  refine TC.region ?_
  refine TL.eff rfl rfl rfl (X.alloc rfl zc34) ?_
  rintro _ _ ⟨b2, rfl, rfl⟩
  refine TL.val rfl rfl rfl (Y.assign rfl rfl) ?_
  refine TL.nil ?_
  refine TQ.next ?_
  refine TC.seq ?_
  refine TC.region ?_
  refine TL.val rfl rfl rfl (Y.move rfl rfl) ?_
  refine TL.eff rfl rfl rfl (X.call rfl Try.func38 (by kernel_rfl) rfl rfl (Fn.preE (by repeat first | (with_reducible apply Ent.refl) | (apply Ent.cons; case h => first | (with_reducible (repeat first | apply Pull.here | apply Pull.there); done) | (repeat first | apply Pull.here | apply Pull.there))) (rd.New_fn _ _ _ _ (by first | assumption | rfl) (by omega) _))) ?_
  rintro _ _ ⟨p14, rfl, rfl⟩
  refine TL.val rfl rfl rfl (Y.assign rfl rfl) ?_
  refine TL.nil ?_
  refine TQ.next ?_
  refine TC.seq ?_
  refine TC.region ?_
  refine TL.val rfl rfl rfl (Y.move rfl rfl) ?_
  refine TL.eff rfl rfl rfl (X.call rfl Try.func39 (by kernel_rfl) rfl rfl (Fn.preE (by repeat first | (with_reducible apply Ent.refl) | (apply Ent.cons; case h => first | (with_reducible (repeat first | apply Pull.here | apply Pull.there); done) | (repeat first | apply Pull.here | apply Pull.there))) (rd.U16_fn _ _ _ _))) ?_
  rintro _ _ ⟨rfl, rfl⟩
  rw [v1, l1, b1]
  refine TL.val rfl rfl rfl (Y.conv rfl Try.underlying44 Try.underlying3 rfl (cv_16_N)) ?_
  refine TL.as (vN (k0.toNat * 256 + k1.toNat)) (by rw [num2]) ?_
  refine TL.val rfl rfl rfl (Y.assign rfl rfl) ?_
  refine TL.nil ?_
  refine TQ.next ?_
  refine TC.seq ?_
  obtain ⟨k, hk⟩ : ∃ k, k = k0.toNat * 256 + k1.toNat := ⟨_, rfl⟩
  rw [← hk]
  rw [← hk] at hbad
  have q1 : k / 16 &&& 1 ≤ 1 := Nat.and_le_right
  have q2 : k / 128 &&& 2 ≤ 2 := Nat.and_le_right
  have q3 : k &&& 15 ≤ 15 := Nat.and_le_right
  have q4 : k / 2 &&& 112 ≤ 112 := Nat.and_le_right
  have q5 : k / 4 &&& 3968 ≤ 3968 := Nat.and_le_right
  have o1 : k &&& 15 ||| k / 2 &&& 112 < 16384 := Nat.or_lt_two_pow (n := 14) (by omega) (by omega)
  refine TC.region ?_
  refine TL.val rfl rfl rfl (Y.move rfl rfl) ?_
  refine TL.val rfl rfl rfl (Y.bin rfl rfl rfl (br_shrN (n := 4) (c := 16) rfl (by omega))) ?_
  refine TL.val rfl rfl rfl (Y.bin rfl rfl rfl (br_andN (n := 1) (by omega) (by omega))) ?_
  refine TL.val rfl rfl rfl (Y.move rfl rfl) ?_
  refine TL.val rfl rfl rfl (Y.bin rfl rfl rfl (br_shrN (n := 7) (c := 128) rfl (by omega))) ?_
  refine TL.val rfl rfl rfl (Y.bin rfl rfl rfl (br_andN (n := 2) (by omega) (by omega))) ?_
  refine TL.val rfl rfl rfl (Y.bin rfl rfl rfl (br_orN (by omega) (by omega))) ?_
  refine TL.val rfl rfl rfl (Y.move rfl rfl) ?_
  refine TL.val rfl rfl rfl (Y.bin rfl rfl rfl (br_andN (n := 15) (by omega) (by omega))) ?_
  refine TL.val rfl rfl rfl (Y.move rfl rfl) ?_
  refine TL.val rfl rfl rfl (Y.bin rfl rfl rfl (br_shrN (n := 1) (c := 2) rfl (by omega))) ?_
  refine TL.val rfl rfl rfl (Y.bin rfl rfl rfl (br_andN (n := 112) (by omega) (by omega))) ?_
  refine TL.val rfl rfl rfl (Y.bin rfl rfl rfl (br_orN (by omega) (by omega))) ?_
  refine TL.val rfl rfl rfl (Y.move rfl rfl) ?_
  refine TL.val rfl rfl rfl (Y.bin rfl rfl rfl (br_shrN (n := 2) (c := 4) rfl (by omega))) ?_
  refine TL.val rfl rfl rfl (Y.bin rfl rfl rfl (br_andN (n := 3968) (by omega) (by omega))) ?_
  refine TL.val rfl rfl rfl (Y.bin rfl rfl rfl (br_orN (by omega) (by omega))) ?_
  refine TL.val rfl rfl rfl (Y.buildS (cells := msgC (clsP k) (mthP k) (fun _ => 0) (.slice none 0 0)) rfl rfl pl34 zc34 (by kernel_rfl)) ?_
  refine TL.eff rfl rfl rfl (X.alloc rfl zc34) ?_
  rintro _ _ ⟨b6, rfl, rfl⟩
  refine TL.eff0 rfl rfl (by first | exact X.storeAll rfl sz34 (by rfl) rfl rfl (allOne (by rfl)) pul (by rfl) | exact X.storeAll rfl sz34 szz rfl rfl (by simp [Value.oneCell']) pul szz | exact X.storeAgg rfl sz34 szz rfl rfl (by simp [Value.oneCell']) pul szz (writeM (by ((try simp only [List.length_set, List.length_map, List.length_append, List.length_replicate]); omega)))) ?_
  rintro _ _ rfl
  refine TL.nil ?_
  refine TQ.next ?_
  refine TC.seq ?_
  refine TC.region ?_
  refine TL.val rfl rfl rfl (Y.move rfl rfl) ?_
  refine TL.eff rfl rfl rfl (X.call rfl Try.func39 (by kernel_rfl) rfl rfl (Fn.preE (by repeat first | (with_reducible apply Ent.refl) | (apply Ent.cons; case h => first | (with_reducible (repeat first | apply Pull.here | apply Pull.there); done) | (repeat first | apply Pull.here | apply Pull.there))) (rd.U16_fn _ _ _ _))) ?_
  rintro _ _ ⟨rfl, rfl⟩
  rw [v2, l2, b2']
  refine TL.val rfl rfl rfl (Y.conv rfl Try.underlying44 Try.underlying3 rfl (cv_16_N)) ?_
  refine TL.as (vN (n0.toNat * 256 + n1.toNat)) (by rw [num2]) ?_
  refine TL.val rfl rfl rfl (Y.move rfl rfl) ?_
  refine TL.eff rfl rfl rfl (X.call rfl Try.func40 (by kernel_rfl) rfl rfl (Fn.preE (by repeat first | (with_reducible apply Ent.refl) | (apply Ent.cons; case h => first | (with_reducible (repeat first | apply Pull.here | apply Pull.there); done) | (repeat first | apply Pull.here | apply Pull.there))) (rd.U32_fn _ _ _ _))) ?_
  rintro _ _ ⟨rfl, rfl⟩
  rw [v3, l3, b3]
  refine TL.val rfl rfl rfl (Y.assign rfl rfl) ?_
  refine TL.val rfl rfl rfl (Y.assign rfl rfl) ?_
  refine TL.nil ?_
  refine TQ.next ?_
  refine TC.seq ?_
  refine TC.draws 4 [] (by kernel_rfl) (by kernel_rfl) (by repeat first | exact holds_nil | refine holds_cons inn ?_) ?_
  refine TA.takeP 0 rfl rfl rfl rfl (by kernel_rfl) (by kernel_rfl) (by kernel_rfl) rfl (fun _ _ _ h => h) (by first | exact Y.fieldAddrJ rfl fo34_2 rfl nqq | exact Y.fieldAddr rfl fo34_2 rfl nqq) ?_
  refine TA.take 1 rfl rfl rfl rfl (by kernel_rfl) (by kernel_rfl) (by kernel_rfl) rfl (by kernel_rfl) (by kernel_rfl) (fun _ _ _ h => h) (Y.sliceArr rfl Try.underlying22 sz5 rfl) ?_
  refine TA.takeP 2 rfl rfl rfl rfl (by kernel_rfl) (by kernel_rfl) (by kernel_rfl) rfl (fun _ _ _ h => h) (Y.move rfl rfl) ?_
  refine TA.one 3 (by kernel_rfl) rfl rfl rfl rfl (X.call rfl Try.func41 (by kernel_rfl) rfl rfl (Fn.preE (by repeat first | (with_reducible apply Ent.refl) | (apply Ent.cons; case h => first | (with_reducible (repeat first | apply Pull.here | apply Pull.there); done) | (repeat first | apply Pull.here | apply Pull.there))) (rd.Take_fn _ 12 _ _ (by omega) (by simp; omega) _))) ?_
  rintro _ _ ⟨a44, c44, rfl, rfl⟩
  rw [v4, l4, b4]
  refine ⟨(Or.inr (by repeat first | exact holds_nil | refine holds_cons inn ?_)), ?_⟩
  refine TA.one 4 (by kernel_rfl) rfl rfl rfl rfl (X.copyBlk (cs := msgC (clsP k) (mthP k) (fun _ => 0) (.slice none 0 0)) (cs' := msgC (clsP k) (mthP k) f (.slice none 0 0)) (news := (idL f).map v8) (m := (idL f).length) (sz := 1) rfl Try.underlying27 (by kernel_rfl) rfl rfl (Src.owns Try.underlying27 inn) pul (by simp) (by simp [msgC]) (by kernel_rfl)) ?_
  rintro _ _ ⟨rfl, rfl⟩
  refine ⟨(Or.inl (by kernel_rfl)), ?_⟩
  refine TA.done (by kernel_rfl) ?_
  refine TQ.next ?_
  refine TC.seq ?_
  refine TC.seq ?_
  refine TC.region ?_
  refine TL.val rfl rfl rfl (Y.move rfl rfl) ?_
  refine TL.eff rfl rfl rfl (X.call rfl Try.func42 (by kernel_rfl) rfl rfl (Fn.preE (by repeat first | (with_reducible apply Ent.refl) | (apply Ent.cons; case h => first | (with_reducible (repeat first | apply Pull.here | apply Pull.there); done) | (repeat first | apply Pull.here | apply Pull.there))) (rd.Bad_fn _ _ _ _))) ?_
  rintro _ _ ⟨rfl, rfl⟩
  refine TL.val rfl rfl rfl (Y.move rfl rfl) ?_
  refine TL.valG rfl rfl rfl (Y.move rfl rfl) ?_
  refine TL.valG rfl rfl rfl (Y.bin rfl rfl rfl (br_geN (n := 16384))) ?_
  refine TL.val rfl rfl rfl (Y.pick_f rfl rfl rfl) ?_
  refine TL.val rfl rfl rfl (Y.move rfl rfl) ?_
  refine TL.case (fun g6_6 => ?_) (fun g6_6 => ?_)
  · try simp only [decide_eq_true_eq, decide_eq_false_iff_not, Bool.not_eq_true', Bool.not_eq_false', Nat.not_lt, Nat.not_le, beq_iff_eq, bne_iff_ne] at g6_6
    refine TL.not rfl rfl rfl ?_
    refine TL.not rfl rfl rfl ?_
    refine TL.not rfl rfl rfl ?_
    refine TL.not rfl rfl rfl ?_
    refine TL.val rfl rfl rfl (Y.pick_t rfl rfl rfl) ?_
    refine TL.val rfl rfl rfl (Y.move rfl rfl) ?_
    refine TL.not rfl rfl rfl ?_
    refine TL.not rfl rfl rfl ?_
    refine TL.not rfl rfl rfl ?_
    refine TL.val rfl rfl rfl (Y.pick_t rfl rfl rfl) ?_
    refine TL.val rfl rfl rfl (Y.move rfl rfl) ?_
    refine TL.not rfl rfl rfl ?_
    refine TL.not rfl rfl rfl ?_
    refine TL.val rfl rfl rfl (Y.pick_t rfl rfl rfl) ?_
    refine TL.val rfl rfl rfl (Y.move rfl rfl) ?_
    refine TL.not rfl rfl rfl ?_
    refine TL.not rfl rfl rfl ?_
    refine TL.not rfl rfl rfl ?_
    refine TL.val rfl rfl rfl (Y.pick_t rfl rfl rfl) ?_
    refine TL.nil ?_
    refine TQ.next ?_
    refine TC.cond_t rfl ?_
    refine TC.seq ?_
    refine TC.region ?_
    refine TL.val rfl rfl rfl (Y.buildS rfl rfl pl34 zc34 rfl) ?_
    refine TL.as (.agg zmsg) (by rfl) ?_
    refine TL.eff0 rfl rfl (by first | exact X.storeAll rfl sz34 (by rfl) rfl rfl (allOne (by rfl)) pul (by rfl) | exact X.storeAll rfl sz34 szz rfl rfl (by simp [Value.oneCell']) pul szz | exact X.storeAgg rfl sz34 szz rfl rfl (by simp [Value.oneCell']) pul szz (writeM (by ((try simp only [List.length_set, List.length_map, List.length_append, List.length_replicate]); omega)))) ?_
    rintro _ _ rfl
    refine TL.val rfl rfl rfl (Y.assign rfl rfl) ?_
    refine TL.nil ?_
    refine TQ.next ?_
    refine TC.ret ?_
    refine TQ.then_ret ?_
    refine TQ.retE (resL rfl (Res.agg rfl ag34 (Cels.all (cs := zmsg) inn) (by first | rfl | assumption | omega) (Res.tmp rfl Res.nil))) (⟨rfl, rfl⟩) ?_
    exact ett
  · try simp only [decide_eq_true_eq, decide_eq_false_iff_not, Bool.not_eq_true', Bool.not_eq_false', Nat.not_lt, Nat.not_le, beq_iff_eq, bne_iff_ne] at g6_6
    refine TL.valG rfl rfl rfl (Y.move rfl rfl) ?_
    refine TL.valG rfl rfl rfl (Y.move rfl rfl) ?_
    refine TL.effG rfl rfl rfl (X.call rfl Try.func43 (by kernel_rfl) rfl rfl (Fn.preE (by repeat first | (with_reducible apply Ent.refl) | (apply Ent.cons; case h => first | (with_reducible (repeat first | apply Pull.here | apply Pull.there); done) | (repeat first | apply Pull.here | apply Pull.there))) (rd.Left_fn _ _ _ _))) ?_
    rintro _ _ ⟨rfl, rfl⟩
    refine TL.valG rfl rfl rfl (Y.bin rfl rfl rfl (br_neN)) ?_
    refine TL.val rfl rfl rfl (Y.pick_f rfl rfl rfl) ?_
    refine TL.val rfl rfl rfl (Y.move rfl rfl) ?_
    refine TL.case (fun g6_12 => ?_) (fun g6_12 => ?_)
    · try simp only [decide_eq_true_eq, decide_eq_false_iff_not, Bool.not_eq_true', Bool.not_eq_false', Nat.not_lt, Nat.not_le, beq_iff_eq, bne_iff_ne] at g6_12
      refine TL.not rfl rfl rfl ?_
      refine TL.not rfl rfl rfl ?_
      refine TL.not rfl rfl rfl ?_
      refine TL.val rfl rfl rfl (Y.pick_t rfl rfl rfl) ?_
      refine TL.val rfl rfl rfl (Y.move rfl rfl) ?_
      refine TL.not rfl rfl rfl ?_
      refine TL.not rfl rfl rfl ?_
      refine TL.val rfl rfl rfl (Y.pick_t rfl rfl rfl) ?_
      refine TL.val rfl rfl rfl (Y.move rfl rfl) ?_
      refine TL.not rfl rfl rfl ?_
      refine TL.not rfl rfl rfl ?_
      refine TL.not rfl rfl rfl ?_
      refine TL.val rfl rfl rfl (Y.pick_t rfl rfl rfl) ?_
      refine TL.nil ?_
      refine TQ.next ?_
      refine TC.cond_t rfl ?_
      refine TC.seq ?_
      refine TC.region ?_
      refine TL.val rfl rfl rfl (Y.buildS rfl rfl pl34 zc34 rfl) ?_
      refine TL.as (.agg zmsg) (by rfl) ?_
      refine TL.eff0 rfl rfl (by first | exact X.storeAll rfl sz34 (by rfl) rfl rfl (allOne (by rfl)) pul (by rfl) | exact X.storeAll rfl sz34 szz rfl rfl (by simp [Value.oneCell']) pul szz | exact X.storeAgg rfl sz34 szz rfl rfl (by simp [Value.oneCell']) pul szz (writeM (by ((try simp only [List.length_set, List.length_map, List.length_append, List.length_replicate]); omega)))) ?_
      rintro _ _ rfl
      refine TL.val rfl rfl rfl (Y.assign rfl rfl) ?_
      refine TL.nil ?_
      refine TQ.next ?_
      refine TC.ret ?_
      refine TQ.then_ret ?_
      refine TQ.retE (resL rfl (Res.agg rfl ag34 (Cels.all (cs := zmsg) inn) (by first | rfl | assumption | omega) (Res.tmp rfl Res.nil))) (⟨rfl, rfl⟩) ?_
      exact ett
    · try simp only [decide_eq_true_eq, decide_eq_false_iff_not, Bool.not_eq_true', Bool.not_eq_false', Nat.not_lt, Nat.not_le, beq_iff_eq, bne_iff_ne] at g6_12
      refine TL.valG rfl rfl rfl (Y.move rfl rfl) ?_
      refine TL.valG rfl rfl rfl (Y.bin rfl rfl rfl (br_remN (n := 4) (by omega))) ?_
      refine TL.valG rfl rfl rfl (Y.bin rfl rfl rfl (br_neN (n := 0))) ?_
      refine TL.val rfl rfl rfl (Y.pick_f rfl rfl rfl) ?_
      refine TL.val rfl rfl rfl (Y.move rfl rfl) ?_
      refine TL.case (fun g6_17 => ?_) (fun g6_17 => ?_)
      · try simp only [decide_eq_true_eq, decide_eq_false_iff_not, Bool.not_eq_true', Bool.not_eq_false', Nat.not_lt, Nat.not_le, beq_iff_eq, bne_iff_ne] at g6_17
        refine TL.not rfl rfl rfl ?_
        refine TL.not rfl rfl rfl ?_
        refine TL.val rfl rfl rfl (Y.pick_t rfl rfl rfl) ?_
        refine TL.val rfl rfl rfl (Y.move rfl rfl) ?_
        refine TL.not rfl rfl rfl ?_
        refine TL.not rfl rfl rfl ?_
        refine TL.not rfl rfl rfl ?_
        refine TL.val rfl rfl rfl (Y.pick_t rfl rfl rfl) ?_
        refine TL.nil ?_
        refine TQ.next ?_
        refine TC.cond_t rfl ?_
        refine TC.seq ?_
        refine TC.region ?_
        refine TL.val rfl rfl rfl (Y.buildS rfl rfl pl34 zc34 rfl) ?_
        refine TL.as (.agg zmsg) (by rfl) ?_
        refine TL.eff0 rfl rfl (by first | exact X.storeAll rfl sz34 (by rfl) rfl rfl (allOne (by rfl)) pul (by rfl) | exact X.storeAll rfl sz34 szz rfl rfl (by simp [Value.oneCell']) pul szz | exact X.storeAgg rfl sz34 szz rfl rfl (by simp [Value.oneCell']) pul szz (writeM (by ((try simp only [List.length_set, List.length_map, List.length_append, List.length_replicate]); omega)))) ?_
        rintro _ _ rfl
        refine TL.val rfl rfl rfl (Y.assign rfl rfl) ?_
        refine TL.nil ?_
        refine TQ.next ?_
        refine TC.ret ?_
        refine TQ.then_ret ?_
        refine TQ.retE (resL rfl (Res.agg rfl ag34 (Cels.all (cs := zmsg) inn) (by first | rfl | assumption | omega) (Res.tmp rfl Res.nil))) (⟨rfl, rfl⟩) ?_
        exact ett
      · try simp only [decide_eq_true_eq, decide_eq_false_iff_not, Bool.not_eq_true', Bool.not_eq_false', Nat.not_lt, Nat.not_le, beq_iff_eq, bne_iff_ne] at g6_17
        refine TL.valG rfl rfl rfl (Y.move rfl rfl) ?_
        refine TL.valG rfl rfl rfl (Y.bin rfl rfl rfl (br_ne32 (y := 554869826))) ?_
        refine TL.val rfl rfl rfl (Y.pick_f rfl rfl rfl) ?_
        refine TL.val rfl rfl rfl (Y.move rfl rfl) ?_
        refine TL.case (fun g6_21 => ?_) (fun g6_21 => ?_)
        · try simp only [decide_eq_true_eq, decide_eq_false_iff_not, Bool.not_eq_true', Bool.not_eq_false', Nat.not_lt, Nat.not_le, beq_iff_eq, bne_iff_ne] at g6_21
          refine TL.not rfl rfl rfl ?_
          refine TL.not rfl rfl rfl ?_
          refine TL.not rfl rfl rfl ?_
          refine TL.val rfl rfl rfl (Y.pick_t rfl rfl rfl) ?_
          refine TL.nil ?_
          refine TQ.next ?_
          refine TC.cond_t rfl ?_
          refine TC.seq ?_
          refine TC.region ?_
          refine TL.val rfl rfl rfl (Y.buildS rfl rfl pl34 zc34 rfl) ?_
          refine TL.as (.agg zmsg) (by rfl) ?_
          refine TL.eff0 rfl rfl (by first | exact X.storeAll rfl sz34 (by rfl) rfl rfl (allOne (by rfl)) pul (by rfl) | exact X.storeAll rfl sz34 szz rfl rfl (by simp [Value.oneCell']) pul szz | exact X.storeAgg rfl sz34 szz rfl rfl (by simp [Value.oneCell']) pul szz (writeM (by ((try simp only [List.length_set, List.length_map, List.length_append, List.length_replicate]); omega)))) ?_
          rintro _ _ rfl
          refine TL.val rfl rfl rfl (Y.assign rfl rfl) ?_
          refine TL.nil ?_
          refine TQ.next ?_
          refine TC.ret ?_
          refine TQ.then_ret ?_
          refine TQ.retE (resL rfl (Res.agg rfl ag34 (Cels.all (cs := zmsg) inn) (by first | rfl | assumption | omega) (Res.tmp rfl Res.nil))) (⟨rfl, rfl⟩) ?_
          exact ett
        · try simp only [decide_eq_true_eq, decide_eq_false_iff_not, Bool.not_eq_true', Bool.not_eq_false', Nat.not_lt, Nat.not_le, beq_iff_eq, bne_iff_ne] at g6_21
          refine TL.valG rfl rfl rfl (Y.move rfl rfl) ?_
          refine TL.valG rfl rfl rfl (Y.len rfl Try.underlying27 rfl) ?_
          refine TL.valG rfl rfl rfl (Y.bin rfl rfl rfl (br_gtN (n := 1500))) ?_
          refine TL.val rfl rfl rfl (Y.pick_f rfl rfl rfl) ?_
          refine TL.nil ?_
          refine TQ.next ?_
          refine TC.cond rfl (fun c0 => ?_) (fun c0 => ?_)
          · try simp only [decide_eq_true_eq, decide_eq_false_iff_not, Bool.not_eq_true', Bool.not_eq_false', Bool.and_eq_true, Bool.or_eq_true, Nat.not_lt, Nat.not_le, beq_iff_eq, bne_iff_ne] at c0
            refine TC.seq ?_
            refine TC.region ?_
            refine TL.val rfl rfl rfl (Y.buildS rfl rfl pl34 zc34 rfl) ?_
            refine TL.as (.agg zmsg) (by rfl) ?_
            refine TL.eff0 rfl rfl (by first | exact X.storeAll rfl sz34 (by rfl) rfl rfl (allOne (by rfl)) pul (by rfl) | exact X.storeAll rfl sz34 szz rfl rfl (by simp [Value.oneCell']) pul szz | exact X.storeAgg rfl sz34 szz rfl rfl (by simp [Value.oneCell']) pul szz (writeM (by ((try simp only [List.length_set, List.length_map, List.length_append, List.length_replicate]); omega)))) ?_
            rintro _ _ rfl
            refine TL.val rfl rfl rfl (Y.assign rfl rfl) ?_
            refine TL.nil ?_
            refine TQ.next ?_
            refine TC.ret ?_
            refine TQ.then_ret ?_
            refine TQ.retE (resL rfl (Res.agg rfl ag34 (Cels.all (cs := zmsg) inn) (by first | rfl | assumption | omega) (Res.tmp rfl Res.nil))) (⟨rfl, rfl⟩) ?_
            exact ett
          · try simp only [decide_eq_true_eq, decide_eq_false_iff_not, Bool.not_eq_true', Bool.not_eq_false', Bool.and_eq_true, Bool.or_eq_true, Nat.not_lt, Nat.not_le, beq_iff_eq, bne_iff_ne] at c0
            exfalso
            rcases hbad with h | h | h | h | h
            all_goals first | omega | exact h (by assumption) | (simp_all; done) --stop
end stun
end Go.Proofs.Ytggammbhmoippaa
