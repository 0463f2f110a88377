/- The logic and the walks, in one text with others: part 3 of 6. -/
import Derived.Test.YtpmplnkempcmjaaChecked
import Derived.Test.YtpmplnkempcmjaaPk2
/- stun.Parse, walked. -/
namespace Go.Proofs.Ytpmplnkempcmjaa
set_option linter.unusedVariables false
set_option linter.unusedSimpArgs false
open Go.RowKit
namespace stun
open wr (pad4 pad4_length pad4_mod pad4_head pad4_step pad4_done be16 be32)
open r1 (be2 be4 be2_len be4_len)
open rd (rdB rdL rdV num num1)
namespace FxStunPP
set_option maxRecDepth 100000
theorem ag58 : Program.aggN Try.prog 58 = some 15 := by kernel_rfl
theorem fo58_2 : Program.fieldOff Try.prog 58 2 = some 2 := by kernel_rfl
theorem pl58 : Program.places Try.prog 58 = some [(0, 1), (1, 1), (2, 12), (14, 1)] := by kernel_rfl
theorem sz5 : (Try.prog.info? 5).map (·.size) = some 1 := by kernel_rfl
theorem sz58 : (Try.prog.info? 58).map (·.size) = some 15 := by kernel_rfl
theorem zc58 : Program.zeroC Try.prog 58 = some #[.int .i64 0, .int .i64 0, .int .u8 0, .int .u8 0, .int .u8 0, .int .u8 0, .int .u8 0, .int .u8 0, .int .u8 0, .int .u8 0, .int .u8 0, .int .u8 0, .int .u8 0, .int .u8 0, .slice none 0 0] := by kernel_rfl
end FxStunPP
open FxStunPP
/-- what reading bytes comes to -/
def PR (b : List UInt8) (c m : Int) (f : Nat → UInt8) (l : List PA) (e : Nat) : Prop :=
  (e = 0 ∧ (⟨c, m, idL f, l⟩ : SMsg).build = some b) ∨ (e = 2 ∧ c = 0 ∧ m = 0 ∧ f = (fun _ => 0) ∧ l = [] ∧ ∀ x : SMsg, x.id.length = 12 → x.build ≠ some b)
theorem build_len {x : SMsg} {b : List UInt8} (hx : x.id.length = 12) (h : x.build = some b) : 20 ≤ b.length := by
  obtain ⟨-, -, rfl⟩ := (build_iff x b).1 h
  simp [hx, be2, magicB, be4]
theorem short_bad (b : List UInt8) (h : b.length < 20) : ∀ l1 l2 l3 b1 b2 b3, l1 = rdL 2 b false → b1 = rdB 2 b false → l2 = rdL 2 l1 b1 → b2 = rdB 2 l1 b1 → l3 = rdL 4 l2 b2 → b3 = rdB 4 l2 b2 → rdB 12 l3 b3 = true := by
  rintro l1 l2 l3 b1 b2 b3 rfl rfl rfl rfl rfl rfl
  cases hq : rdB 12 (rdL 4 (rdL 2 (rdL 2 b false) (rdB 2 b false)) (rdB 2 (rdL 2 b false) (rdB 2 b false))) (rdB 4 (rdL 2 (rdL 2 b false) (rdB 2 b false)) (rdB 2 (rdL 2 b false) (rdB 2 b false))) with
  | true => rfl
  | false =>
    obtain ⟨e4, n4⟩ := rd_app hq
    have h3 := (rdB_eq hq).1
    obtain ⟨e3, n3⟩ := rd_app h3
    have h2 := (rdB_eq h3).1
    obtain ⟨e2, n2⟩ := rd_app h2
    have h1 := (rdB_eq h2).1
    obtain ⟨e1, n1⟩ := rd_app h1
    have l4 := congrArg List.length e4
    have l3 := congrArg List.length e3
    have l2 := congrArg List.length e2
    have l1 := congrArg List.length e1
    rw [List.length_append] at l1 l2 l3 l4
    omega
abbrev zmsg : Array Value := msgC 0 0 (fun _ => 0) (.slice none 0 0)
set_option maxHeartbeats 1000000 in
theorem Parse_short (a : Option Addr) (n cap : Nat) (b : List UInt8) (hn : b.length = n) (hs : b.length < 20) (L : List SA) :
    Fn Try.prog 17 [.slice a n cap] (SA.rds 1 (.slice a n cap) n (b.map v8) :: L)
      (fun v L' => v = .tuple #[.agg zmsg, vN 2] ∧ L' = SA.rds 1 (.slice a n cap) n (b.map v8) :: L) := by
  refine Fn.of (N := 120) Try.func17 rfl rfl ?_
  intro Xh
  refine TC.seq ?_
  refine TC.region ?_
  refine TL.eff rfl rfl rfl (X.alloc rfl zc58) ?_
  rintro _ _ ⟨b2, rfl, rfl⟩
  refine TL.val rfl rfl rfl (Y.assign rfl rfl) ?_
  refine TL.nil ?_
  refine TQ.next ?_
  refine TC.seq ?_
  refine TC.region ?_
  refine TL.val rfl rfl rfl (Y.move rfl rfl) ?_
  refine TL.eff rfl rfl rfl (X.call rfl Try.func31 (by kernel_rfl) rfl rfl (Fn.preE (by repeat first | (with_reducible apply Ent.refl) | (apply Ent.cons; case h => first | (with_reducible (repeat first | apply Pull.here | apply Pull.there); done) | (repeat first | apply Pull.here | apply Pull.there))) (rd.New_fn _ _ _ _ (by first | assumption | rfl) (by omega) _))) ?_
  rintro _ _ ⟨p14, rfl, rfl⟩
  refine TL.val rfl rfl rfl (Y.assign rfl rfl) ?_
  refine TL.nil ?_
  refine TQ.next ?_
  refine TC.seq ?_
  refine TC.region ?_
  refine TL.val rfl rfl rfl (Y.move rfl rfl) ?_
  refine TL.eff rfl rfl rfl (X.call rfl Try.func32 (by kernel_rfl) rfl rfl (Fn.preE (by repeat first | (with_reducible apply Ent.refl) | (apply Ent.cons; case h => first | (with_reducible (repeat first | apply Pull.here | apply Pull.there); done) | (repeat first | apply Pull.here | apply Pull.there))) (rd.U16_fn _ _ _ _))) ?_
  rintro _ _ ⟨rfl, rfl⟩
  refine TL.val rfl rfl rfl (Y.conv rfl Try.underlying22 Try.underlying3 rfl (cv_16_N)) ?_
  refine TL.val rfl rfl rfl (Y.assign rfl rfl) ?_
  refine TL.nil ?_
  refine TQ.next ?_
  refine TC.seq ?_
  generalize hn : (num (rdV 2 b false)).toUInt16.toNat = k
  have hk : k < 65536 := by rw [← hn]; exact UInt16.toNat_lt _
  have q1 : k / 16 &&& 1 ≤ 1 := Nat.and_le_right
  have q2 : k / 128 &&& 2 ≤ 2 := Nat.and_le_right
  have q3 : k &&& 15 ≤ 15 := Nat.and_le_right
  have q4 : k / 2 &&& 112 ≤ 112 := Nat.and_le_right
  have q5 : k / 4 &&& 3968 ≤ 3968 := Nat.and_le_right
  have o1 : k &&& 15 ||| k / 2 &&& 112 < 16384 := Nat.or_lt_two_pow (n := 14) (by omega) (by omega)
  refine TC.region ?_
  refine TL.val rfl rfl rfl (Y.move rfl rfl) ?_
  refine TL.val rfl rfl rfl (Y.bin rfl rfl rfl (br_shrN (n := 4) (c := 16) rfl (by omega))) ?_
  refine TL.val rfl rfl rfl (Y.bin rfl rfl rfl (br_andN (n := 1) (by omega) (by omega))) ?_
  refine TL.val rfl rfl rfl (Y.move rfl rfl) ?_
  refine TL.val rfl rfl rfl (Y.bin rfl rfl rfl (br_shrN (n := 7) (c := 128) rfl (by omega))) ?_
  refine TL.val rfl rfl rfl (Y.bin rfl rfl rfl (br_andN (n := 2) (by omega) (by omega))) ?_
  refine TL.val rfl rfl rfl (Y.bin rfl rfl rfl (br_orN (by omega) (by omega))) ?_
  refine TL.val rfl rfl rfl (Y.move rfl rfl) ?_
  refine TL.val rfl rfl rfl (Y.bin rfl rfl rfl (br_andN (n := 15) (by omega) (by omega))) ?_
  refine TL.val rfl rfl rfl (Y.move rfl rfl) ?_
  refine TL.val rfl rfl rfl (Y.bin rfl rfl rfl (br_shrN (n := 1) (c := 2) rfl (by omega))) ?_
  refine TL.val rfl rfl rfl (Y.bin rfl rfl rfl (br_andN (n := 112) (by omega) (by omega))) ?_
  refine TL.val rfl rfl rfl (Y.bin rfl rfl rfl (br_orN (by omega) (by omega))) ?_
  refine TL.val rfl rfl rfl (Y.move rfl rfl) ?_
  refine TL.val rfl rfl rfl (Y.bin rfl rfl rfl (br_shrN (n := 2) (c := 4) rfl (by omega))) ?_
  refine TL.val rfl rfl rfl (Y.bin rfl rfl rfl (br_andN (n := 3968) (by omega) (by omega))) ?_
  refine TL.val rfl rfl rfl (Y.bin rfl rfl rfl (br_orN (by omega) (by omega))) ?_
  refine TL.val rfl rfl rfl (Y.buildS (cells := msgC (clsP k) (mthP k) (fun _ => 0) (.slice none 0 0)) rfl rfl pl58 zc58 (by kernel_rfl)) ?_
  refine TL.eff rfl rfl rfl (X.alloc rfl zc58) ?_
  rintro _ _ ⟨b6, rfl, rfl⟩
  refine TL.eff0 rfl rfl (by first | exact X.storeAll rfl sz58 (by rfl) rfl rfl (allOne (by rfl)) pul (by rfl) | exact X.storeAll rfl sz58 szz rfl rfl (by simp [Value.oneCell']) pul szz | exact X.storeAgg rfl sz58 szz rfl rfl (by simp [Value.oneCell']) pul szz (writeM (by ((try simp only [List.length_set, List.length_map, List.length_append, List.length_replicate]); omega)))) ?_
  rintro _ _ rfl
  refine TL.nil ?_
  refine TQ.next ?_
  refine TC.seq ?_
  refine TC.region ?_
  refine TL.val rfl rfl rfl (Y.move rfl rfl) ?_
  refine TL.eff rfl rfl rfl (X.call rfl Try.func32 (by kernel_rfl) rfl rfl (Fn.preE (by repeat first | (with_reducible apply Ent.refl) | (apply Ent.cons; case h => first | (with_reducible (repeat first | apply Pull.here | apply Pull.there); done) | (repeat first | apply Pull.here | apply Pull.there))) (rd.U16_fn _ _ _ _))) ?_
  rintro _ _ ⟨rfl, rfl⟩
  refine TL.val rfl rfl rfl (Y.conv rfl Try.underlying22 Try.underlying3 rfl (cv_16_N)) ?_
  refine TL.val rfl rfl rfl (Y.move rfl rfl) ?_
  refine TL.eff rfl rfl rfl (X.call rfl Try.func33 (by kernel_rfl) rfl rfl (Fn.preE (by repeat first | (with_reducible apply Ent.refl) | (apply Ent.cons; case h => first | (with_reducible (repeat first | apply Pull.here | apply Pull.there); done) | (repeat first | apply Pull.here | apply Pull.there))) (rd.U32_fn _ _ _ _))) ?_
  rintro _ _ ⟨rfl, rfl⟩
  refine TL.val rfl rfl rfl (Y.assign rfl rfl) ?_
  refine TL.val rfl rfl rfl (Y.assign rfl rfl) ?_
  refine TL.nil ?_
  refine TQ.next ?_
  refine TC.seq ?_
  have hsb := short_bad b hs _ _ _ _ _ _ rfl rfl rfl rfl rfl rfl
  have hl1 := rd.rdL_len 2 b false
  have hl2 := rd.rdL_len 2 (rdL 2 b false) (rdB 2 b false)
  have hl3 := rd.rdL_len 4 (rdL 2 (rdL 2 b false) (rdB 2 b false)) (rdB 2 (rdL 2 b false) (rdB 2 b false))
  generalize rdB 4 (rdL 2 (rdL 2 b false) (rdB 2 b false)) (rdB 2 (rdL 2 b false) (rdB 2 b false)) = b3 at *
  generalize rdL 4 (rdL 2 (rdL 2 b false) (rdB 2 b false)) (rdB 2 (rdL 2 b false) (rdB 2 b false)) = l3 at *
  have hv : rdV 12 l3 b3 = [] := by simp [rdV, hsb]
  refine TC.draws 4 [] (by kernel_rfl) (by kernel_rfl) (by repeat first | exact holds_nil | refine holds_cons inn ?_) ?_
  refine TA.takeP 0 rfl rfl rfl rfl (by kernel_rfl) (by kernel_rfl) (by kernel_rfl) rfl (fun _ _ _ h => h) (by first | exact Y.fieldAddrJ rfl fo58_2 rfl nqq | exact Y.fieldAddr rfl fo58_2 rfl nqq) ?_
  refine TA.take 1 rfl rfl rfl rfl (by kernel_rfl) (by kernel_rfl) (by kernel_rfl) rfl (by kernel_rfl) (by kernel_rfl) (fun _ _ _ h => h) (Y.sliceArr rfl Try.underlying40 sz5 rfl) ?_
  refine TA.takeP 2 rfl rfl rfl rfl (by kernel_rfl) (by kernel_rfl) (by kernel_rfl) rfl (fun _ _ _ h => h) (Y.move rfl rfl) ?_
  refine TA.one 3 (by kernel_rfl) rfl rfl rfl rfl (X.call rfl Try.func34 (by kernel_rfl) rfl rfl (Fn.preE (by repeat first | (with_reducible apply Ent.refl) | (apply Ent.cons; case h => first | (with_reducible (repeat first | apply Pull.here | apply Pull.there); done) | (repeat first | apply Pull.here | apply Pull.there))) (rd.Take_fn _ 12 _ _ (by omega) (by omega) _))) ?_
  rintro _ _ ⟨a44, c44, rfl, rfl⟩
  rw [hv, hsb]
  refine ⟨(Or.inr (by repeat first | exact holds_nil | refine holds_cons inn ?_)), ?_⟩
  refine TA.one 4 (by kernel_rfl) rfl rfl rfl rfl (X.copyBlk (cs := msgC (clsP k) (mthP k) (fun _ => 0) (.slice none 0 0)) (news := ([] : List UInt8).map v8) (m := ([] : List UInt8).length) (sz := 1) rfl Try.underlying30 (by kernel_rfl) rfl rfl (Src.owns Try.underlying30 inn) pul (by simp) (by simp [msgC]) (by rfl)) ?_
  rintro _ _ ⟨rfl, rfl⟩
  refine ⟨(Or.inl (by kernel_rfl)), ?_⟩
  refine TA.done (by kernel_rfl) ?_
  refine TQ.next ?_
  refine TC.seq ?_
  refine TC.seq ?_
  refine TC.region ?_
  refine TL.val rfl rfl rfl (Y.move rfl rfl) ?_
  refine TL.eff rfl rfl rfl (X.call rfl Try.func35 (by kernel_rfl) rfl rfl (Fn.preE (by repeat first | (with_reducible apply Ent.refl) | (apply Ent.cons; case h => first | (with_reducible (repeat first | apply Pull.here | apply Pull.there); done) | (repeat first | apply Pull.here | apply Pull.there))) (rd.Bad_fn _ _ _ _))) ?_
  rintro _ _ ⟨rfl, rfl⟩
  refine TL.val rfl rfl rfl (Y.move rfl rfl) ?_
  refine TL.not rfl rfl rfl ?_
  refine TL.not rfl rfl rfl ?_
  refine TL.val rfl rfl rfl (Y.pick_t rfl rfl rfl) ?_
  refine TL.val rfl rfl rfl (Y.move rfl rfl) ?_
  refine TL.not rfl rfl rfl ?_
  refine TL.not rfl rfl rfl ?_
  refine TL.not rfl rfl rfl ?_
  refine TL.not rfl rfl rfl ?_
  refine TL.val rfl rfl rfl (Y.pick_t rfl rfl rfl) ?_
  refine TL.val rfl rfl rfl (Y.move rfl rfl) ?_
  refine TL.not rfl rfl rfl ?_
  refine TL.not rfl rfl rfl ?_
  refine TL.not rfl rfl rfl ?_
  refine TL.val rfl rfl rfl (Y.pick_t rfl rfl rfl) ?_
  refine TL.val rfl rfl rfl (Y.move rfl rfl) ?_
  refine TL.not rfl rfl rfl ?_
  refine TL.not rfl rfl rfl ?_
  refine TL.val rfl rfl rfl (Y.pick_t rfl rfl rfl) ?_
  refine TL.val rfl rfl rfl (Y.move rfl rfl) ?_
  refine TL.not rfl rfl rfl ?_
  refine TL.not rfl rfl rfl ?_
  refine TL.not rfl rfl rfl ?_
  refine TL.val rfl rfl rfl (Y.pick_t rfl rfl rfl) ?_
  refine TL.nil ?_
  refine TQ.next ?_
  refine TC.cond_t rfl ?_
  refine TC.seq ?_
  refine TC.region ?_
  refine TL.val rfl rfl rfl (Y.buildS rfl rfl pl58 zc58 rfl) ?_
  refine TL.as (.agg zmsg) (by rfl) ?_
  refine TL.eff0 rfl rfl (by first | exact X.storeAll rfl sz58 (by rfl) rfl rfl (allOne (by rfl)) pul (by rfl) | exact X.storeAll rfl sz58 szz rfl rfl (by simp [Value.oneCell']) pul szz | exact X.storeAgg rfl sz58 szz rfl rfl (by simp [Value.oneCell']) pul szz (writeM (by ((try simp only [List.length_set, List.length_map, List.length_append, List.length_replicate]); omega)))) ?_
  rintro _ _ rfl
  refine TL.val rfl rfl rfl (Y.assign rfl rfl) ?_
  refine TL.nil ?_
  refine TQ.next ?_
  refine TC.ret ?_
  refine TQ.then_ret ?_
  refine TQ.retE (resL rfl (Res.agg rfl ag58 (Cels.all (cs := zmsg) inn) (by first | rfl | assumption | omega) (Res.tmp rfl Res.nil))) (⟨rfl, rfl⟩) ?_
  exact ett
theorem idL_get (bs : List UInt8) (h : bs.length = 12) : idL (fun i => bs.getD i 0) = bs := by
  match bs, h with
  | [b0, b1, b2, b3, b4, b5, b6, b7, b8, b9, b10, b11], _ => rfl
theorem eight {l : List UInt8} (h : l.length = 8) : ∃ k0 k1 n0 n1 c0 c1 c2 c3, l = [k0, k1, n0, n1, c0, c1, c2, c3] := by
  match l, h with
  | [k0, k1, n0, n1, c0, c1, c2, c3], _ => exact ⟨k0, k1, n0, n1, c0, c1, c2, c3, rfl⟩
theorem header {b : List UInt8} (h : 20 ≤ b.length) : ∃ k0 k1 n0 n1 c0 c1 c2 c3 f rest, b = [k0, k1, n0, n1, c0, c1, c2, c3] ++ (idL f ++ rest) := by
  obtain ⟨k0, k1, n0, n1, c0, c1, c2, c3, h8⟩ := eight (l := b.take 8) (by rw [List.length_take]; omega)
  have h12 := idL_get ((b.drop 8).take 12) (by rw [List.length_take, List.length_drop]; omega)
  refine ⟨k0, k1, n0, n1, c0, c1, c2, c3, fun i => ((b.drop 8).take 12).getD i 0, b.drop 20, ?_⟩
  rw [h12, ← h8, show b.drop 20 = (b.drop 8).drop 12 by rw [List.drop_drop], List.take_append_drop, List.take_append_drop]
/-- what a message's bytes say of its head -/
theorem build_head {x : SMsg} {k0 k1 n0 n1 c0 c1 c2 c3 : UInt8} {f : Nat → UInt8} {rest : List UInt8} (hx : x.id.length = 12) (h : x.build = some ([k0, k1, n0, n1, c0, c1, c2, c3] ++ (idL f ++ rest))) :
    x.good = true ∧ kindOf x.cls.toNat x.mth.toNat = k0.toNat * 256 + k1.toNat ∧ (enc x.attrs).length = n0.toNat * 256 + n1.toNat ∧ [c0, c1, c2, c3] = magicB ∧ x.id = idL f ∧ enc x.attrs = rest ∧ 20 + rest.length ≤ 1500 := by
  obtain ⟨hg, hl, he⟩ := (build_iff x _).1 h
  obtain ⟨g1, g2, g3, g4, g5, g6⟩ := good_parts hg
  have hk := kindOf_lt x.cls.toNat x.mth.toNat (by omega) (by omega)
  have e1 : be2 (kindOf x.cls.toNat x.mth.toNat) ++ (be2 (enc x.attrs).length ++ (magicB ++ (x.id ++ enc x.attrs))) = [k0, k1] ++ ([n0, n1] ++ ([c0, c1, c2, c3] ++ (idL f ++ rest))) := by
    simpa only [List.append_assoc, List.cons_append, List.nil_append] using he.symm
  obtain ⟨a1, e1⟩ := app4 e1 rfl
  obtain ⟨a2, e1⟩ := app4 e1 rfl
  obtain ⟨a3, e1⟩ := app4 e1 rfl
  obtain ⟨a4, e1⟩ := app4 e1 (by rw [hx]; rfl)
  have hk0 := k0.toNat_lt; have hk1 := k1.toNat_lt; have hn0 := n0.toNat_lt; have hn1 := n1.toNat_lt
  have hlen : (enc x.attrs).length < 65536 := by
    have := congrArg List.length he
    simp at this hl
    rw [← e1] at hl
    omega
  refine ⟨hg, be2_inj hk (by omega) (by rw [a1, be2_num2]), be2_inj hlen (by omega) (by rw [a2, be2_num2]), a3.symm, a4, e1, ?_⟩
  simp at hl
  omega
/-- the reader's first steps, where there is enough -/
theorem steps20 (k0 k1 n0 n1 c0 c1 c2 c3 : UInt8) (f : Nat → UInt8) (rest : List UInt8) (b : List UInt8) (hb : b = [k0, k1, n0, n1, c0, c1, c2, c3] ++ (idL f ++ rest)) :
    (rdV 2 b false = [k0, k1] ∧ rdL 2 b false = [n0, n1, c0, c1, c2, c3] ++ (idL f ++ rest) ∧ rdB 2 b false = false) ∧
    (rdV 2 ([n0, n1, c0, c1, c2, c3] ++ (idL f ++ rest)) false = [n0, n1] ∧ rdL 2 ([n0, n1, c0, c1, c2, c3] ++ (idL f ++ rest)) false = [c0, c1, c2, c3] ++ (idL f ++ rest) ∧ rdB 2 ([n0, n1, c0, c1, c2, c3] ++ (idL f ++ rest)) false = false) ∧
    (rdV 4 ([c0, c1, c2, c3] ++ (idL f ++ rest)) false = [c0, c1, c2, c3] ∧ rdL 4 ([c0, c1, c2, c3] ++ (idL f ++ rest)) false = idL f ++ rest ∧ rdB 4 ([c0, c1, c2, c3] ++ (idL f ++ rest)) false = false) ∧
    (rdV 12 (idL f ++ rest) false = idL f ∧ rdL 12 (idL f ++ rest) false = rest ∧ rdB 12 (idL f ++ rest) false = false) := by
  subst hb
  refine ⟨⟨?_, ?_, ?_⟩, ⟨?_, ?_, ?_⟩, ⟨?_, ?_, ?_⟩, ⟨?_, ?_, ?_⟩⟩
  all_goals first
    | (rw [rdV_ok (by simp)]; rfl)
    | (rw [rdL_ok (by simp)]; rfl)
    | exact rdB_ok (by simp)
set_option maxHeartbeats 2000000 in
theorem Parse_bad (k0 k1 n0 n1 c0 c1 c2 c3 : UInt8) (f : Nat → UInt8) (rest : List UInt8) (a : Option Addr) (n cap : Nat) (b : List UInt8) (hb : b = [k0, k1, n0, n1, c0, c1, c2, c3] ++ (idL f ++ rest)) (hn : b.length = n) (hr : n ≤ 140737488351232)
    (hbad : 16384 ≤ k0.toNat * 256 + k1.toNat ∨ n0.toNat * 256 + n1.toNat ≠ rest.length ∨ rest.length % 4 ≠ 0 ∨ num [c0, c1, c2, c3] ≠ 554869826 ∨ 1500 < b.length) (L : List SA) :
    Fn Try.prog 17 [.slice a n cap] (SA.rds 1 (.slice a n cap) n (b.map v8) :: L)
      (fun v L' => v = .tuple #[.agg zmsg, vN 2] ∧ L' = SA.rds 1 (.slice a n cap) n (b.map v8) :: L) := by
  have hbl : b.length = 20 + rest.length := by rw [hb]; simp; omega
  obtain ⟨⟨v1, l1, b1⟩, ⟨v2, l2, b2'⟩, ⟨v3, l3, b3⟩, ⟨v4, l4, b4⟩⟩ := steps20 k0 k1 n0 n1 c0 c1 c2 c3 f rest b hb
  have hk0 := k0.toNat_lt
  have hk1 := k1.toNat_lt
  have hn0 := n0.toNat_lt
  have hn1 := n1.toNat_lt
  refine Fn.of (N := 120) Try.func17 rfl rfl ?_
  intro Xh
  refine TC.know (reads_cap Reads.rds (a := a) (n := n) (cap := cap) (cs := b.map v8) inn) ?_
  rintro ⟨hc1, hc2, -, -⟩
  simp only [maxLen] at hc2
  refine TC.seq ?_
  refine TC.region ?_
  refine TL.eff rfl rfl rfl (X.alloc rfl zc58) ?_
  rintro _ _ ⟨b2, rfl, rfl⟩
  refine TL.val rfl rfl rfl (Y.assign rfl rfl) ?_
  refine TL.nil ?_
  refine TQ.next ?_
  refine TC.seq ?_
  refine TC.region ?_
  refine TL.val rfl rfl rfl (Y.move rfl rfl) ?_
  refine TL.eff rfl rfl rfl (X.call rfl Try.func31 (by kernel_rfl) rfl rfl (Fn.preE (by repeat first | (with_reducible apply Ent.refl) | (apply Ent.cons; case h => first | (with_reducible (repeat first | apply Pull.here | apply Pull.there); done) | (repeat first | apply Pull.here | apply Pull.there))) (rd.New_fn _ _ _ _ (by first | assumption | rfl) (by omega) _))) ?_
  rintro _ _ ⟨p14, rfl, rfl⟩
  refine TL.val rfl rfl rfl (Y.assign rfl rfl) ?_
  refine TL.nil ?_
  refine TQ.next ?_
  refine TC.seq ?_
  refine TC.region ?_
  refine TL.val rfl rfl rfl (Y.move rfl rfl) ?_
  refine TL.eff rfl rfl rfl (X.call rfl Try.func32 (by kernel_rfl) rfl rfl (Fn.preE (by repeat first | (with_reducible apply Ent.refl) | (apply Ent.cons; case h => first | (with_reducible (repeat first | apply Pull.here | apply Pull.there); done) | (repeat first | apply Pull.here | apply Pull.there))) (rd.U16_fn _ _ _ _))) ?_
  rintro _ _ ⟨rfl, rfl⟩
  rw [v1, l1, b1]
  refine TL.val rfl rfl rfl (Y.conv rfl Try.underlying22 Try.underlying3 rfl (cv_16_N)) ?_
  refine TL.as (vN (k0.toNat * 256 + k1.toNat)) (by rw [num2]) ?_
  refine TL.val rfl rfl rfl (Y.assign rfl rfl) ?_
  refine TL.nil ?_
  refine TQ.next ?_
  refine TC.seq ?_
  obtain ⟨k, hk⟩ : ∃ k, k = k0.toNat * 256 + k1.toNat := ⟨_, rfl⟩
  rw [← hk]
  rw [← hk] at hbad
  have q1 : k / 16 &&& 1 ≤ 1 := Nat.and_le_right
  have q2 : k / 128 &&& 2 ≤ 2 := Nat.and_le_right
  have q3 : k &&& 15 ≤ 15 := Nat.and_le_right
  have q4 : k / 2 &&& 112 ≤ 112 := Nat.and_le_right
  have q5 : k / 4 &&& 3968 ≤ 3968 := Nat.and_le_right
  have o1 : k &&& 15 ||| k / 2 &&& 112 < 16384 := Nat.or_lt_two_pow (n := 14) (by omega) (by omega)
  refine TC.region ?_
  refine TL.val rfl rfl rfl (Y.move rfl rfl) ?_
  refine TL.val rfl rfl rfl (Y.bin rfl rfl rfl (br_shrN (n := 4) (c := 16) rfl (by omega))) ?_
  refine TL.val rfl rfl rfl (Y.bin rfl rfl rfl (br_andN (n := 1) (by omega) (by omega))) ?_
  refine TL.val rfl rfl rfl (Y.move rfl rfl) ?_
  refine TL.val rfl rfl rfl (Y.bin rfl rfl rfl (br_shrN (n := 7) (c := 128) rfl (by omega))) ?_
  refine TL.val rfl rfl rfl (Y.bin rfl rfl rfl (br_andN (n := 2) (by omega) (by omega))) ?_
  refine TL.val rfl rfl rfl (Y.bin rfl rfl rfl (br_orN (by omega) (by omega))) ?_
  refine TL.val rfl rfl rfl (Y.move rfl rfl) ?_
  refine TL.val rfl rfl rfl (Y.bin rfl rfl rfl (br_andN (n := 15) (by omega) (by omega))) ?_
  refine TL.val rfl rfl rfl (Y.move rfl rfl) ?_
  refine TL.val rfl rfl rfl (Y.bin rfl rfl rfl (br_shrN (n := 1) (c := 2) rfl (by omega))) ?_
  refine TL.val rfl rfl rfl (Y.bin rfl rfl rfl (br_andN (n := 112) (by omega) (by omega))) ?_
  refine TL.val rfl rfl rfl (Y.bin rfl rfl rfl (br_orN (by omega) (by omega))) ?_
  refine TL.val rfl rfl rfl (Y.move rfl rfl) ?_
  refine TL.val rfl rfl rfl (Y.bin rfl rfl rfl (br_shrN (n := 2) (c := 4) rfl (by omega))) ?_
  refine TL.val rfl rfl rfl (Y.bin rfl rfl rfl (br_andN (n := 3968) (by omega) (by omega))) ?_
  refine TL.val rfl rfl rfl (Y.bin rfl rfl rfl (br_orN (by omega) (by omega))) ?_
  refine TL.val rfl rfl rfl (Y.buildS (cells := msgC (clsP k) (mthP k) (fun _ => 0) (.slice none 0 0)) rfl rfl pl58 zc58 (by kernel_rfl)) ?_
  refine TL.eff rfl rfl rfl (X.alloc rfl zc58) ?_
  rintro _ _ ⟨b6, rfl, rfl⟩
  refine TL.eff0 rfl rfl (by first | exact X.storeAll rfl sz58 (by rfl) rfl rfl (allOne (by rfl)) pul (by rfl) | exact X.storeAll rfl sz58 szz rfl rfl (by simp [Value.oneCell']) pul szz | exact X.storeAgg rfl sz58 szz rfl rfl (by simp [Value.oneCell']) pul szz (writeM (by ((try simp only [List.length_set, List.length_map, List.length_append, List.length_replicate]); omega)))) ?_
  rintro _ _ rfl
  refine TL.nil ?_
  refine TQ.next ?_
  refine TC.seq ?_
  refine TC.region ?_
  refine TL.val rfl rfl rfl (Y.move rfl rfl) ?_
  refine TL.eff rfl rfl rfl (X.call rfl Try.func32 (by kernel_rfl) rfl rfl (Fn.preE (by repeat first | (with_reducible apply Ent.refl) | (apply Ent.cons; case h => first | (with_reducible (repeat first | apply Pull.here | apply Pull.there); done) | (repeat first | apply Pull.here | apply Pull.there))) (rd.U16_fn _ _ _ _))) ?_
  rintro _ _ ⟨rfl, rfl⟩
  rw [v2, l2, b2']
  refine TL.val rfl rfl rfl (Y.conv rfl Try.underlying22 Try.underlying3 rfl (cv_16_N)) ?_
  refine TL.as (vN (n0.toNat * 256 + n1.toNat)) (by rw [num2]) ?_
  refine TL.val rfl rfl rfl (Y.move rfl rfl) ?_
  refine TL.eff rfl rfl rfl (X.call rfl Try.func33 (by kernel_rfl) rfl rfl (Fn.preE (by repeat first | (with_reducible apply Ent.refl) | (apply Ent.cons; case h => first | (with_reducible (repeat first | apply Pull.here | apply Pull.there); done) | (repeat first | apply Pull.here | apply Pull.there))) (rd.U32_fn _ _ _ _))) ?_
  rintro _ _ ⟨rfl, rfl⟩
  rw [v3, l3, b3]
  refine TL.val rfl rfl rfl (Y.assign rfl rfl) ?_
  refine TL.val rfl rfl rfl (Y.assign rfl rfl) ?_
  refine TL.nil ?_
  refine TQ.next ?_
  refine TC.seq ?_
  refine TC.draws 4 [] (by kernel_rfl) (by kernel_rfl) (by repeat first | exact holds_nil | refine holds_cons inn ?_) ?_
  refine TA.takeP 0 rfl rfl rfl rfl (by kernel_rfl) (by kernel_rfl) (by kernel_rfl) rfl (fun _ _ _ h => h) (by first | exact Y.fieldAddrJ rfl fo58_2 rfl nqq | exact Y.fieldAddr rfl fo58_2 rfl nqq) ?_
  refine TA.take 1 rfl rfl rfl rfl (by kernel_rfl) (by kernel_rfl) (by kernel_rfl) rfl (by kernel_rfl) (by kernel_rfl) (fun _ _ _ h => h) (Y.sliceArr rfl Try.underlying40 sz5 rfl) ?_
  refine TA.takeP 2 rfl rfl rfl rfl (by kernel_rfl) (by kernel_rfl) (by kernel_rfl) rfl (fun _ _ _ h => h) (Y.move rfl rfl) ?_
  refine TA.one 3 (by kernel_rfl) rfl rfl rfl rfl (X.call rfl Try.func34 (by kernel_rfl) rfl rfl (Fn.preE (by repeat first | (with_reducible apply Ent.refl) | (apply Ent.cons; case h => first | (with_reducible (repeat first | apply Pull.here | apply Pull.there); done) | (repeat first | apply Pull.here | apply Pull.there))) (rd.Take_fn _ 12 _ _ (by omega) (by simp; omega) _))) ?_
  rintro _ _ ⟨a44, c44, rfl, rfl⟩
  rw [v4, l4, b4]
  refine ⟨(Or.inr (by repeat first | exact holds_nil | refine holds_cons inn ?_)), ?_⟩
  refine TA.one 4 (by kernel_rfl) rfl rfl rfl rfl (X.copyBlk (cs := msgC (clsP k) (mthP k) (fun _ => 0) (.slice none 0 0)) (cs' := msgC (clsP k) (mthP k) f (.slice none 0 0)) (news := (idL f).map v8) (m := (idL f).length) (sz := 1) rfl Try.underlying30 (by kernel_rfl) rfl rfl (Src.owns Try.underlying30 inn) pul (by simp) (by simp [msgC]) (by kernel_rfl)) ?_
  rintro _ _ ⟨rfl, rfl⟩
  refine ⟨(Or.inl (by kernel_rfl)), ?_⟩
  refine TA.done (by kernel_rfl) ?_
  refine TQ.next ?_
  refine TC.seq ?_
  refine TC.seq ?_
  refine TC.region ?_
  refine TL.val rfl rfl rfl (Y.move rfl rfl) ?_
  refine TL.eff rfl rfl rfl (X.call rfl Try.func35 (by kernel_rfl) rfl rfl (Fn.preE (by repeat first | (with_reducible apply Ent.refl) | (apply Ent.cons; case h => first | (with_reducible (repeat first | apply Pull.here | apply Pull.there); done) | (repeat first | apply Pull.here | apply Pull.there))) (rd.Bad_fn _ _ _ _))) ?_
  rintro _ _ ⟨rfl, rfl⟩
  refine TL.val rfl rfl rfl (Y.move rfl rfl) ?_
  refine TL.valG rfl rfl rfl (Y.move rfl rfl) ?_
  refine TL.valG rfl rfl rfl (Y.bin rfl rfl rfl (br_geN (n := 16384))) ?_
  refine TL.val rfl rfl rfl (Y.pick_f rfl rfl rfl) ?_
  refine TL.val rfl rfl rfl (Y.move rfl rfl) ?_
  refine TL.case (fun g6_6 => ?_) (fun g6_6 => ?_)
  · try simp only [decide_eq_true_eq, decide_eq_false_iff_not, Bool.not_eq_true', Bool.not_eq_false', Nat.not_lt, Nat.not_le, beq_iff_eq, bne_iff_ne] at g6_6
    refine TL.not rfl rfl rfl ?_
    refine TL.not rfl rfl rfl ?_
    refine TL.not rfl rfl rfl ?_
    refine TL.not rfl rfl rfl ?_
    refine TL.val rfl rfl rfl (Y.pick_t rfl rfl rfl) ?_
    refine TL.val rfl rfl rfl (Y.move rfl rfl) ?_
    refine TL.not rfl rfl rfl ?_
    refine TL.not rfl rfl rfl ?_
    refine TL.not rfl rfl rfl ?_
    refine TL.val rfl rfl rfl (Y.pick_t rfl rfl rfl) ?_
    refine TL.val rfl rfl rfl (Y.move rfl rfl) ?_
    refine TL.not rfl rfl rfl ?_
    refine TL.not rfl rfl rfl ?_
    refine TL.val rfl rfl rfl (Y.pick_t rfl rfl rfl) ?_
    refine TL.val rfl rfl rfl (Y.move rfl rfl) ?_
    refine TL.not rfl rfl rfl ?_
    refine TL.not rfl rfl rfl ?_
    refine TL.not rfl rfl rfl ?_
    refine TL.val rfl rfl rfl (Y.pick_t rfl rfl rfl) ?_
    refine TL.nil ?_
    refine TQ.next ?_
    refine TC.cond_t rfl ?_
    refine TC.seq ?_
    refine TC.region ?_
    refine TL.val rfl rfl rfl (Y.buildS rfl rfl pl58 zc58 rfl) ?_
    refine TL.as (.agg zmsg) (by rfl) ?_
    refine TL.eff0 rfl rfl (by first | exact X.storeAll rfl sz58 (by rfl) rfl rfl (allOne (by rfl)) pul (by rfl) | exact X.storeAll rfl sz58 szz rfl rfl (by simp [Value.oneCell']) pul szz | exact X.storeAgg rfl sz58 szz rfl rfl (by simp [Value.oneCell']) pul szz (writeM (by ((try simp only [List.length_set, List.length_map, List.length_append, List.length_replicate]); omega)))) ?_
    rintro _ _ rfl
    refine TL.val rfl rfl rfl (Y.assign rfl rfl) ?_
    refine TL.nil ?_
    refine TQ.next ?_
    refine TC.ret ?_
    refine TQ.then_ret ?_
    refine TQ.retE (resL rfl (Res.agg rfl ag58 (Cels.all (cs := zmsg) inn) (by first | rfl | assumption | omega) (Res.tmp rfl Res.nil))) (⟨rfl, rfl⟩) ?_
    exact ett
  · try simp only [decide_eq_true_eq, decide_eq_false_iff_not, Bool.not_eq_true', Bool.not_eq_false', Nat.not_lt, Nat.not_le, beq_iff_eq, bne_iff_ne] at g6_6
    refine TL.valG rfl rfl rfl (Y.move rfl rfl) ?_
    refine TL.valG rfl rfl rfl (Y.move rfl rfl) ?_
    refine TL.effG rfl rfl rfl (X.call rfl Try.func36 (by kernel_rfl) rfl rfl (Fn.preE (by repeat first | (with_reducible apply Ent.refl) | (apply Ent.cons; case h => first | (with_reducible (repeat first | apply Pull.here | apply Pull.there); done) | (repeat first | apply Pull.here | apply Pull.there))) (rd.Left_fn _ _ _ _))) ?_
    rintro _ _ ⟨rfl, rfl⟩
    refine TL.valG rfl rfl rfl (Y.bin rfl rfl rfl (br_neN)) ?_
    refine TL.val rfl rfl rfl (Y.pick_f rfl rfl rfl) ?_
    refine TL.val rfl rfl rfl (Y.move rfl rfl) ?_
    refine TL.case (fun g6_12 => ?_) (fun g6_12 => ?_)
    · try simp only [decide_eq_true_eq, decide_eq_false_iff_not, Bool.not_eq_true', Bool.not_eq_false', Nat.not_lt, Nat.not_le, beq_iff_eq, bne_iff_ne] at g6_12
      refine TL.not rfl rfl rfl ?_
      refine TL.not rfl rfl rfl ?_
      refine TL.not rfl rfl rfl ?_
      refine TL.val rfl rfl rfl (Y.pick_t rfl rfl rfl) ?_
      refine TL.val rfl rfl rfl (Y.move rfl rfl) ?_
      refine TL.not rfl rfl rfl ?_
      refine TL.not rfl rfl rfl ?_
      refine TL.val rfl rfl rfl (Y.pick_t rfl rfl rfl) ?_
      refine TL.val rfl rfl rfl (Y.move rfl rfl) ?_
      refine TL.not rfl rfl rfl ?_
      refine TL.not rfl rfl rfl ?_
      refine TL.not rfl rfl rfl ?_
      refine TL.val rfl rfl rfl (Y.pick_t rfl rfl rfl) ?_
      refine TL.nil ?_
      refine TQ.next ?_
      refine TC.cond_t rfl ?_
      refine TC.seq ?_
      refine TC.region ?_
      refine TL.val rfl rfl rfl (Y.buildS rfl rfl pl58 zc58 rfl) ?_
      refine TL.as (.agg zmsg) (by rfl) ?_
      refine TL.eff0 rfl rfl (by first | exact X.storeAll rfl sz58 (by rfl) rfl rfl (allOne (by rfl)) pul (by rfl) | exact X.storeAll rfl sz58 szz rfl rfl (by simp [Value.oneCell']) pul szz | exact X.storeAgg rfl sz58 szz rfl rfl (by simp [Value.oneCell']) pul szz (writeM (by ((try simp only [List.length_set, List.length_map, List.length_append, List.length_replicate]); omega)))) ?_
      rintro _ _ rfl
      refine TL.val rfl rfl rfl (Y.assign rfl rfl) ?_
      refine TL.nil ?_
      refine TQ.next ?_
      refine TC.ret ?_
      refine TQ.then_ret ?_
      refine TQ.retE (resL rfl (Res.agg rfl ag58 (Cels.all (cs := zmsg) inn) (by first | rfl | assumption | omega) (Res.tmp rfl Res.nil))) (⟨rfl, rfl⟩) ?_
      exact ett
    · try simp only [decide_eq_true_eq, decide_eq_false_iff_not, Bool.not_eq_true', Bool.not_eq_false', Nat.not_lt, Nat.not_le, beq_iff_eq, bne_iff_ne] at g6_12
      refine TL.valG rfl rfl rfl (Y.move rfl rfl) ?_
      refine TL.valG rfl rfl rfl (Y.bin rfl rfl rfl (br_remN (n := 4) (by omega))) ?_
      refine TL.valG rfl rfl rfl (Y.bin rfl rfl rfl (br_neN (n := 0))) ?_
      refine TL.val rfl rfl rfl (Y.pick_f rfl rfl rfl) ?_
      refine TL.val rfl rfl rfl (Y.move rfl rfl) ?_
      refine TL.case (fun g6_17 => ?_) (fun g6_17 => ?_)
      · try simp only [decide_eq_true_eq, decide_eq_false_iff_not, Bool.not_eq_true', Bool.not_eq_false', Nat.not_lt, Nat.not_le, beq_iff_eq, bne_iff_ne] at g6_17
        refine TL.not rfl rfl rfl ?_
        refine TL.not rfl rfl rfl ?_
        refine TL.val rfl rfl rfl (Y.pick_t rfl rfl rfl) ?_
        refine TL.val rfl rfl rfl (Y.move rfl rfl) ?_
        refine TL.not rfl rfl rfl ?_
        refine TL.not rfl rfl rfl ?_
        refine TL.not rfl rfl rfl ?_
        refine TL.val rfl rfl rfl (Y.pick_t rfl rfl rfl) ?_
        refine TL.nil ?_
        refine TQ.next ?_
        refine TC.cond_t rfl ?_
        refine TC.seq ?_
        refine TC.region ?_
        refine TL.val rfl rfl rfl (Y.buildS rfl rfl pl58 zc58 rfl) ?_
        refine TL.as (.agg zmsg) (by rfl) ?_
        refine TL.eff0 rfl rfl (by first | exact X.storeAll rfl sz58 (by rfl) rfl rfl (allOne (by rfl)) pul (by rfl) | exact X.storeAll rfl sz58 szz rfl rfl (by simp [Value.oneCell']) pul szz | exact X.storeAgg rfl sz58 szz rfl rfl (by simp [Value.oneCell']) pul szz (writeM (by ((try simp only [List.length_set, List.length_map, List.length_append, List.length_replicate]); omega)))) ?_
        rintro _ _ rfl
        refine TL.val rfl rfl rfl (Y.assign rfl rfl) ?_
        refine TL.nil ?_
        refine TQ.next ?_
        refine TC.ret ?_
        refine TQ.then_ret ?_
        refine TQ.retE (resL rfl (Res.agg rfl ag58 (Cels.all (cs := zmsg) inn) (by first | rfl | assumption | omega) (Res.tmp rfl Res.nil))) (⟨rfl, rfl⟩) ?_
        exact ett
      · try simp only [decide_eq_true_eq, decide_eq_false_iff_not, Bool.not_eq_true', Bool.not_eq_false', Nat.not_lt, Nat.not_le, beq_iff_eq, bne_iff_ne] at g6_17
        refine TL.valG rfl rfl rfl (Y.move rfl rfl) ?_
        refine TL.valG rfl rfl rfl (Y.bin rfl rfl rfl (br_ne32 (y := 554869826))) ?_
        refine TL.val rfl rfl rfl (Y.pick_f rfl rfl rfl) ?_
        refine TL.val rfl rfl rfl (Y.move rfl rfl) ?_
        refine TL.case (fun g6_21 => ?_) (fun g6_21 => ?_)
        · try simp only [decide_eq_true_eq, decide_eq_false_iff_not, Bool.not_eq_true', Bool.not_eq_false', Nat.not_lt, Nat.not_le, beq_iff_eq, bne_iff_ne] at g6_21
          refine TL.not rfl rfl rfl ?_
          refine TL.not rfl rfl rfl ?_
          refine TL.not rfl rfl rfl ?_
          refine TL.val rfl rfl rfl (Y.pick_t rfl rfl rfl) ?_
          refine TL.nil ?_
          refine TQ.next ?_
          refine TC.cond_t rfl ?_
          refine TC.seq ?_
          refine TC.region ?_
          refine TL.val rfl rfl rfl (Y.buildS rfl rfl pl58 zc58 rfl) ?_
          refine TL.as (.agg zmsg) (by rfl) ?_
          refine TL.eff0 rfl rfl (by first | exact X.storeAll rfl sz58 (by rfl) rfl rfl (allOne (by rfl)) pul (by rfl) | exact X.storeAll rfl sz58 szz rfl rfl (by simp [Value.oneCell']) pul szz | exact X.storeAgg rfl sz58 szz rfl rfl (by simp [Value.oneCell']) pul szz (writeM (by ((try simp only [List.length_set, List.length_map, List.length_append, List.length_replicate]); omega)))) ?_
          rintro _ _ rfl
          refine TL.val rfl rfl rfl (Y.assign rfl rfl) ?_
          refine TL.nil ?_
          refine TQ.next ?_
          refine TC.ret ?_
          refine TQ.then_ret ?_
          refine TQ.retE (resL rfl (Res.agg rfl ag58 (Cels.all (cs := zmsg) inn) (by first | rfl | assumption | omega) (Res.tmp rfl Res.nil))) (⟨rfl, rfl⟩) ?_
          exact ett
        · try simp only [decide_eq_true_eq, decide_eq_false_iff_not, Bool.not_eq_true', Bool.not_eq_false', Nat.not_lt, Nat.not_le, beq_iff_eq, bne_iff_ne] at g6_21
          refine TL.valG rfl rfl rfl (Y.move rfl rfl) ?_
          refine TL.valG rfl rfl rfl (Y.len rfl Try.underlying30 rfl) ?_
          refine TL.valG rfl rfl rfl (Y.bin rfl rfl rfl (br_gtN (n := 1500))) ?_
          refine TL.val rfl rfl rfl (Y.pick_f rfl rfl rfl) ?_
          refine TL.nil ?_
          refine TQ.next ?_
          refine TC.cond rfl (fun c0 => ?_) (fun c0 => ?_)
          · try simp only [decide_eq_true_eq, decide_eq_false_iff_not, Bool.not_eq_true', Bool.not_eq_false', Bool.and_eq_true, Bool.or_eq_true, Nat.not_lt, Nat.not_le, beq_iff_eq, bne_iff_ne] at c0
            refine TC.seq ?_
            refine TC.region ?_
            refine TL.val rfl rfl rfl (Y.buildS rfl rfl pl58 zc58 rfl) ?_
            refine TL.as (.agg zmsg) (by rfl) ?_
            refine TL.eff0 rfl rfl (by first | exact X.storeAll rfl sz58 (by rfl) rfl rfl (allOne (by rfl)) pul (by rfl) | exact X.storeAll rfl sz58 szz rfl rfl (by simp [Value.oneCell']) pul szz | exact X.storeAgg rfl sz58 szz rfl rfl (by simp [Value.oneCell']) pul szz (writeM (by ((try simp only [List.length_set, List.length_map, List.length_append, List.length_replicate]); omega)))) ?_
            rintro _ _ rfl
            refine TL.val rfl rfl rfl (Y.assign rfl rfl) ?_
            refine TL.nil ?_
            refine TQ.next ?_
            refine TC.ret ?_
            refine TQ.then_ret ?_
            refine TQ.retE (resL rfl (Res.agg rfl ag58 (Cels.all (cs := zmsg) inn) (by first | rfl | assumption | omega) (Res.tmp rfl Res.nil))) (⟨rfl, rfl⟩) ?_
            exact ett
          · try simp only [decide_eq_true_eq, decide_eq_false_iff_not, Bool.not_eq_true', Bool.not_eq_false', Bool.and_eq_true, Bool.or_eq_true, Nat.not_lt, Nat.not_le, beq_iff_eq, bne_iff_ne] at c0
            exfalso
            rcases hbad with h | h | h | h | h
            all_goals first | omega | exact h (by assumption) | (simp_all; done) --stop
end stun
end Go.Proofs.Ytpmplnkempcmjaa

/- stun.Parse, walked whole. -/
namespace Go.Proofs.Ytpmplnkempcmjaa
set_option linter.unusedVariables false
set_option linter.unusedSimpArgs false
open Go.RowKit
namespace stun
open wr (pad4 pad4_length pad4_mod pad4_head pad4_step pad4_done be16 be32)
open r1 (be2 be4 be2_len be4_len)
open rd (rdB rdL rdV num num1)
namespace FxStunPQ
set_option maxRecDepth 100000
theorem ag58 : Program.aggN Try.prog 58 = some 15 := by kernel_rfl
theorem ag76 : Program.aggN Try.prog 76 = some 2 := by kernel_rfl
theorem el56 : Elt Try.prog 56 76 2 32 (.agg #[.int .u16 0, .slice none 0 0]) := ⟨Try.underlying56, by kernel_rfl, rfl, by decide, by simp [Value.cells, Value.oneCell']⟩
theorem fo58_2 : Program.fieldOff Try.prog 58 2 = some 2 := by kernel_rfl
theorem fo58_3 : Program.fieldOff Try.prog 58 3 = some 14 := by kernel_rfl
theorem fo76_1 : Program.fieldOff Try.prog 76 1 = some 1 := by kernel_rfl
theorem pl58 : Program.places Try.prog 58 = some [(0, 1), (1, 1), (2, 12), (14, 1)] := by kernel_rfl
theorem pl76 : Program.places Try.prog 76 = some [(0, 1), (1, 1)] := by kernel_rfl
theorem sc5 : Program.isSc Try.prog 5 = true := by kernel_rfl
theorem sc56 : Program.isSc Try.prog 56 = true := by kernel_rfl
theorem sl30 : Program.slI Try.prog 30 = some 1 := by kernel_rfl
theorem sz30 : (Try.prog.info? 30).map (·.size) = some 1 := by kernel_rfl
theorem sz5 : (Try.prog.info? 5).map (·.size) = some 1 := by kernel_rfl
theorem sz58 : (Try.prog.info? 58).map (·.size) = some 15 := by kernel_rfl
theorem sz76 : (Try.prog.info? 76).map (·.size) = some 2 := by kernel_rfl
theorem zc58 : Program.zeroC Try.prog 58 = some #[.int .i64 0, .int .i64 0, .int .u8 0, .int .u8 0, .int .u8 0, .int .u8 0, .int .u8 0, .int .u8 0, .int .u8 0, .int .u8 0, .int .u8 0, .int .u8 0, .int .u8 0, .int .u8 0, .slice none 0 0] := by kernel_rfl
theorem zc76 : Program.zeroC Try.prog 76 = some #[.int .u16 0, .slice none 0 0] := by kernel_rfl
theorem zs76 : ((Try.prog.info? 76).bind fun i => i.zero.map fun z => (i.size, z.cells.size)) = some (2, 2) := by kernel_rfl
end FxStunPQ
open FxStunPQ
theorem num4 (x y z u : UInt8) : (num [x, y, z, u]).toNat = ((x.toNat * 256 + y.toNat) * 256 + z.toNat) * 256 + u.toNat := by
  have hx := x.toNat_lt; have hy := y.toNat_lt; have hz := z.toNat_lt; have hu := u.toNat_lt
  have step : ∀ (n : Nat) (c : UInt8), n < 16777216 → (num1 (UInt32.ofNat n) c) = UInt32.ofNat (n * 256 + c.toNat) := fun n c hn => by
    have hc := c.toNat_lt
    apply UInt32.toNat_inj.1
    rw [UInt32.toNat_ofNat_of_lt' (by show _ < 4294967296; omega)]
    simp only [num1, shl32]
    rw [UInt32.toNat_or, UInt32.toNat_ofNat_of_lt' (show n < 4294967296 by omega)]
    simp
    rw [show n * 256 % 4294967296 = n * 256 by omega, or_add _ _ (by omega)]
  have e : num [x, y, z, u] = UInt32.ofNat (((x.toNat * 256 + y.toNat) * 256 + z.toNat) * 256 + u.toNat) := by
    simp only [num, List.foldl_cons, List.foldl_nil]
    rw [show (0 : UInt32) = UInt32.ofNat 0 from rfl, step 0 x (by omega), step _ y (by omega), step _ z (by omega), step _ u (by omega)]
    rw [Nat.zero_mul, Nat.zero_add]
  rw [e, UInt32.toNat_ofNat_of_lt' (by show _ < 4294967296; omega)]
theorem magic_of {x y z u : UInt8} (h : num [x, y, z, u] = 554869826) : [x, y, z, u] = magicB := by
  have hx := x.toNat_lt; have hy := y.toNat_lt; have hz := z.toNat_lt; have hu := u.toNat_lt
  have e := num4 x y z u
  rw [h] at e
  rw [show (554869826 : UInt32).toNat = 554869826 from by decide] at e
  have h1 : x = 33 := UInt8.toNat_inj.1 (by show _ = 33; omega)
  have h2 : y = 18 := UInt8.toNat_inj.1 (by show _ = 18; omega)
  have h3 : z = 164 := UInt8.toNat_inj.1 (by show _ = 164; omega)
  have h4 : u = 66 := UInt8.toNat_inj.1 (by show _ = 66; omega)
  subst h1; subst h2; subst h3; subst h4
  decide
theorem rdV_le (k : Nat) (l : List UInt8) (b : Bool) : (rdV k l b).length ≤ k := by
  unfold rdV; split
  · simp
  · rw [List.length_take]; omega
theorem small_good {m : SMsg} (h : m.good = true) : small m.attrs := fun a ha => by have := (good_parts h).1 a ha; omega
theorem parse_none {k0 k1 n0 n1 m0 m1 m2 m3 : UInt8} {f : Nat → UInt8} {rest b : List UInt8} (hb : b = [k0, k1, n0, n1, m0, m1, m2, m3] ++ (idL f ++ rest)) (h : ∀ ys, small ys → enc ys ≠ rest) :
    ∀ x : SMsg, x.id.length = 12 → x.build ≠ some b := fun x hx e => by
  subst hb
  obtain ⟨hg, -, -, -, -, he, -⟩ := build_head hx e
  exact h _ (small_good hg) he
theorem enc_nil_iff : enc ([] : List PA) = [] := rfl
/-- what holds of what has been read -/
structure LI (rest l : List UInt8) (bad : Bool) (xs : List PA) : Prop where
  ok : bad = false → enc xs ++ l = rest
  no : bad = true → ∀ ys, small ys → enc ys ≠ rest
  len : 4 * xs.length + l.length ≤ rest.length + (if bad then 4 else 0)
  sm : small xs
theorem LI.start (rest : List UInt8) : LI rest rest false [] := ⟨fun _ => rfl, by simp, by simp, fun a ha => by simp at ha⟩
theorem small_snoc {xs : List PA} {x : PA} (h : small xs) (hx : x.2.length < 65536) : small (xs ++ [x]) := fun a ha => by
  rcases List.mem_append.1 ha with h1 | h1
  · exact h a h1
  · simp at h1; subst h1; exact hx
theorem LI.stuck {rest l : List UInt8} {xs : List PA} (h : LI rest l false xs) (hl : l ≠ []) (hq : (atRead l).bad = true ∨ ∃ x ∈ (atRead l).w, x ≠ 0) : ∀ ys, small ys → enc ys ≠ rest := fun ys hs e => by
  rw [← h.ok rfl] at e
  obtain ⟨zs, rfl, e2⟩ := enc_cancel xs ys l hs h.sm e
  exact atRead_no l hl hq zs (fun a ha => hs a (by simp [ha])) e2
theorem LI.step {rest l : List UInt8} {xs : List PA} (h : LI rest l false xs) (hl : l ≠ []) (hz : ∀ x ∈ (atRead l).w, x = 0) (hv : (atRead l).v.length < 65536) (hb : (atRead l).l.length ≤ l.length) :
    LI rest (atRead l).l (atRead l).bad (xs ++ [((atRead l).t, (atRead l).v)]) := by
  cases hq : (atRead l).bad with
  | true =>
    refine ⟨by simp, fun _ => h.stuck hl (.inl hq), ?_, small_snoc h.sm hv⟩
    have := h.len
    simp at this ⊢; omega
  | false =>
    have e := atRead_step l hq hz
    have hp := encA_pos ((atRead l).t, (atRead l).v)
    have hlen := congrArg List.length e
    rw [List.length_append] at hlen
    refine ⟨fun _ => ?_, by simp, ?_, small_snoc h.sm hv⟩
    · rw [enc_app, List.append_assoc, ← h.ok rfl]
      congr 1
      rw [show enc [((atRead l).t, (atRead l).v)] = encA ((atRead l).t, (atRead l).v) by simp [enc]]
      exact e.symm
    · have := h.len
      simp at this ⊢; omega
/-- a round of the reading loop lessens this -/
theorem LI.dec {l : List UInt8} (hb : (atRead l).l.length ≤ l.length) (hz : ∀ x ∈ (atRead l).w, x = 0) : (atRead l).l.length + (if (atRead l).bad then 0 else 1) < l.length + 1 := by
  cases hq : (atRead l).bad with
  | true => simp; omega
  | false =>
    have e := atRead_step l hq hz
    have hp := encA_pos ((atRead l).t, (atRead l).v)
    have hlen := congrArg List.length e
    rw [List.length_append] at hlen
    simp; omega
theorem take_zero {w : List UInt8} {i : Nat} (hz : ∀ x ∈ w.take i, x = 0) (hi : i < w.length) (hc : (w.getD i 0 != 0) = false) : ∀ x ∈ w.take (i + 1), x = 0 := by
  intro x hx
  rw [List.take_add_one] at hx
  rcases List.mem_append.1 hx with h | h
  · exact hz x h
  · rw [List.getElem?_eq_getElem hi] at h
    simp at h
    subst h
    simpa [hi] using hc
theorem getD_mem0 {w : List UInt8} {i : Nat} (hi : i < w.length) : w.getD i 0 ∈ w := by
  rw [List.getD_eq_getElem?_getD, List.getElem?_eq_getElem hi]; simp
theorem parse_yes {k0 k1 n0 n1 m0 m1 m2 m3 : UInt8} {f : Nat → UInt8} {rest b : List UInt8} {k : Nat} {xs : List PA} (hb : b = [k0, k1, n0, n1, m0, m1, m2, m3] ++ (idL f ++ rest)) (hk : k = k0.toNat * 256 + k1.toNat) (h1 : k < 16384) (h2 : n0.toNat * 256 + n1.toNat = rest.length)
    (h4 : num [m0, m1, m2, m3] = 554869826) (h5 : b.length ≤ 1500) (h : LI rest [] false xs) (hg : (⟨clsP k, mthP k, idL f, xs⟩ : SMsg).good = true) : (⟨clsP k, mthP k, idL f, xs⟩ : SMsg).build = some b := by
  have e := h.ok rfl
  rw [List.append_nil] at e
  rw [build_iff]
  refine ⟨hg, h5, ?_⟩
  show b = be2 (kindOf (clsP k) (mthP k)) ++ be2 (enc xs).length ++ magicB ++ idL f ++ enc xs
  rw [(kind_to k h1).2.2, e, ← h2, hk, be2_num2, be2_num2, ← magic_of h4, hb]
  simp
theorem parse_bad {k0 k1 n0 n1 m0 m1 m2 m3 : UInt8} {f : Nat → UInt8} {rest b : List UInt8} {k : Nat} {xs : List PA} (hb : b = [k0, k1, n0, n1, m0, m1, m2, m3] ++ (idL f ++ rest)) (hk : k = k0.toNat * 256 + k1.toNat)
    (h : LI rest [] false xs) (hg : (⟨clsP k, mthP k, idL f, xs⟩ : SMsg).good = false) : ∀ x : SMsg, x.id.length = 12 → x.build ≠ some b := fun x hx e => by
  subst hb
  obtain ⟨hg', h1, h2, -, h3, he, -⟩ := build_head hx e
  have e2 := h.ok rfl
  rw [List.append_nil, ← he] at e2
  have e3 := enc_inj h.sm (small_good hg') e2
  obtain ⟨g1, g2, g3, g4, g5, g6⟩ := good_parts hg'
  obtain ⟨k1, k2, k3, k4, k5⟩ := kind_of x.cls.toNat x.mth.toNat (by omega) (by omega)
  rw [h1, ← hk] at k3 k4
  have : (⟨clsP k, mthP k, idL f, xs⟩ : SMsg) = x := by
    rw [k3, k4, e3, ← h3, Int.toNat_of_nonneg g2, Int.toNat_of_nonneg g4]
  rw [this, hg'] at hg
  cases hg
set_option maxHeartbeats 4000000 in
theorem Parse_ok (k0 k1 n0 n1 m0 m1 m2 m3 : UInt8) (f : Nat → UInt8) (rest : List UInt8) (a : Option Addr) (n cap : Nat) (b : List UInt8) (hb : b = [k0, k1, n0, n1, m0, m1, m2, m3] ++ (idL f ++ rest)) (hn : b.length = n) (hr : n ≤ 140737488351232)
    (hg1 : k0.toNat * 256 + k1.toNat < 16384) (hg2 : n0.toNat * 256 + n1.toNat = rest.length) (hg3 : rest.length % 4 = 0) (hg4 : num [m0, m1, m2, m3] = 554869826) (hg5 : b.length ≤ 1500) (L : List SA) :
    Fn Try.prog 17 [.slice a n cap] (SA.rds 1 (.slice a n cap) n (b.map v8) :: L)
      (fun v L' => ∃ c m f' a' cap' l' e, v = .tuple #[.agg (msgC c m f' (.slice a' (l' : List At).length cap')), vN e] ∧ PR b c m f' (l'.map pl) e ∧ L' = SA.dat (⟨a', cap', l'⟩ : Sl At) :: SA.rds 1 (.slice a n cap) n (b.map v8) :: L) := by
  have hbl : b.length = 20 + rest.length := by rw [hb]; simp; omega
  obtain ⟨⟨v1, l1, b1⟩, ⟨v2, l2, b2'⟩, ⟨v3, l3, b3⟩, ⟨v4, l4, b4⟩⟩ := steps20 k0 k1 n0 n1 m0 m1 m2 m3 f rest b hb
  have hk0 := k0.toNat_lt
  have hk1 := k1.toNat_lt
  have hn0 := n0.toNat_lt
  have hn1 := n1.toNat_lt
  refine Fn.of (N := 120) Try.func17 rfl rfl ?_
  intro Xh
  refine TC.know (reads_cap Reads.rds (a := a) (n := n) (cap := cap) (cs := b.map v8) inn) ?_
  rintro ⟨hc1, hc2, -, -⟩
  simp only [maxLen] at hc2
  refine TC.seq ?_
  refine TC.region ?_
  refine TL.eff rfl rfl rfl (X.alloc rfl zc58) ?_
  rintro _ _ ⟨b2, rfl, rfl⟩
  refine TL.val rfl rfl rfl (Y.assign rfl rfl) ?_
  refine TL.nil ?_
  refine TQ.next ?_
  refine TC.seq ?_
  refine TC.region ?_
  refine TL.val rfl rfl rfl (Y.move rfl rfl) ?_
  refine TL.eff rfl rfl rfl (X.call rfl Try.func31 (by kernel_rfl) rfl rfl (Fn.preE (by repeat first | (with_reducible apply Ent.refl) | (apply Ent.cons; case h => first | (with_reducible (repeat first | apply Pull.here | apply Pull.there); done) | (repeat first | apply Pull.here | apply Pull.there))) (rd.New_fn _ _ _ _ (by first | assumption | rfl) (by omega) _))) ?_
  rintro _ _ ⟨p14, rfl, rfl⟩
  refine TL.val rfl rfl rfl (Y.assign rfl rfl) ?_
  refine TL.nil ?_
  refine TQ.next ?_
  refine TC.seq ?_
  refine TC.region ?_
  refine TL.val rfl rfl rfl (Y.move rfl rfl) ?_
  refine TL.eff rfl rfl rfl (X.call rfl Try.func32 (by kernel_rfl) rfl rfl (Fn.preE (by repeat first | (with_reducible apply Ent.refl) | (apply Ent.cons; case h => first | (with_reducible (repeat first | apply Pull.here | apply Pull.there); done) | (repeat first | apply Pull.here | apply Pull.there))) (rd.U16_fn _ _ _ _))) ?_
  rintro _ _ ⟨rfl, rfl⟩
  rw [v1, l1, b1]
  refine TL.val rfl rfl rfl (Y.conv rfl Try.underlying22 Try.underlying3 rfl (cv_16_N)) ?_
  refine TL.as (vN (k0.toNat * 256 + k1.toNat)) (by rw [num2]) ?_
  refine TL.val rfl rfl rfl (Y.assign rfl rfl) ?_
  refine TL.nil ?_
  refine TQ.next ?_
  refine TC.seq ?_
  obtain ⟨k, hk⟩ : ∃ k, k = k0.toNat * 256 + k1.toNat := ⟨_, rfl⟩
  rw [← hk]
  rw [← hk] at hg1
  have q1 : k / 16 &&& 1 ≤ 1 := Nat.and_le_right
  have q2 : k / 128 &&& 2 ≤ 2 := Nat.and_le_right
  have q3 : k &&& 15 ≤ 15 := Nat.and_le_right
  have q4 : k / 2 &&& 112 ≤ 112 := Nat.and_le_right
  have q5 : k / 4 &&& 3968 ≤ 3968 := Nat.and_le_right
  have o1 : k &&& 15 ||| k / 2 &&& 112 < 16384 := Nat.or_lt_two_pow (n := 14) (by omega) (by omega)
  refine TC.region ?_
  refine TL.val rfl rfl rfl (Y.move rfl rfl) ?_
  refine TL.val rfl rfl rfl (Y.bin rfl rfl rfl (br_shrN (n := 4) (c := 16) rfl (by omega))) ?_
  refine TL.val rfl rfl rfl (Y.bin rfl rfl rfl (br_andN (n := 1) (by omega) (by omega))) ?_
  refine TL.val rfl rfl rfl (Y.move rfl rfl) ?_
  refine TL.val rfl rfl rfl (Y.bin rfl rfl rfl (br_shrN (n := 7) (c := 128) rfl (by omega))) ?_
  refine TL.val rfl rfl rfl (Y.bin rfl rfl rfl (br_andN (n := 2) (by omega) (by omega))) ?_
  refine TL.val rfl rfl rfl (Y.bin rfl rfl rfl (br_orN (by omega) (by omega))) ?_
  refine TL.val rfl rfl rfl (Y.move rfl rfl) ?_
  refine TL.val rfl rfl rfl (Y.bin rfl rfl rfl (br_andN (n := 15) (by omega) (by omega))) ?_
  refine TL.val rfl rfl rfl (Y.move rfl rfl) ?_
  refine TL.val rfl rfl rfl (Y.bin rfl rfl rfl (br_shrN (n := 1) (c := 2) rfl (by omega))) ?_
  refine TL.val rfl rfl rfl (Y.bin rfl rfl rfl (br_andN (n := 112) (by omega) (by omega))) ?_
  refine TL.val rfl rfl rfl (Y.bin rfl rfl rfl (br_orN (by omega) (by omega))) ?_
  refine TL.val rfl rfl rfl (Y.move rfl rfl) ?_
  refine TL.val rfl rfl rfl (Y.bin rfl rfl rfl (br_shrN (n := 2) (c := 4) rfl (by omega))) ?_
  refine TL.val rfl rfl rfl (Y.bin rfl rfl rfl (br_andN (n := 3968) (by omega) (by omega))) ?_
  refine TL.val rfl rfl rfl (Y.bin rfl rfl rfl (br_orN (by omega) (by omega))) ?_
  refine TL.val rfl rfl rfl (Y.buildS (cells := msgC (clsP k) (mthP k) (fun _ => 0) (.slice none 0 0)) rfl rfl pl58 zc58 (by kernel_rfl)) ?_
  refine TL.eff rfl rfl rfl (X.alloc rfl zc58) ?_
  rintro _ _ ⟨b6, rfl, rfl⟩
  refine TL.eff0 rfl rfl (by first | exact X.storeAll rfl sz58 (by rfl) rfl rfl (allOne (by rfl)) pul (by rfl) | exact X.storeAll rfl sz58 szz rfl rfl (by simp [Value.oneCell']) pul szz | exact X.storeAgg rfl sz58 szz rfl rfl (by simp [Value.oneCell']) pul szz (writeM (by ((try simp only [List.length_set, List.length_map, List.length_append, List.length_replicate]); omega)))) ?_
  rintro _ _ rfl
  refine TL.nil ?_
  refine TQ.next ?_
  refine TC.seq ?_
  refine TC.region ?_
  refine TL.val rfl rfl rfl (Y.move rfl rfl) ?_
  refine TL.eff rfl rfl rfl (X.call rfl Try.func32 (by kernel_rfl) rfl rfl (Fn.preE (by repeat first | (with_reducible apply Ent.refl) | (apply Ent.cons; case h => first | (with_reducible (repeat first | apply Pull.here | apply Pull.there); done) | (repeat first | apply Pull.here | apply Pull.there))) (rd.U16_fn _ _ _ _))) ?_
  rintro _ _ ⟨rfl, rfl⟩
  rw [v2, l2, b2']
  refine TL.val rfl rfl rfl (Y.conv rfl Try.underlying22 Try.underlying3 rfl (cv_16_N)) ?_
  refine TL.as (vN (n0.toNat * 256 + n1.toNat)) (by rw [num2]) ?_
  refine TL.val rfl rfl rfl (Y.move rfl rfl) ?_
  refine TL.eff rfl rfl rfl (X.call rfl Try.func33 (by kernel_rfl) rfl rfl (Fn.preE (by repeat first | (with_reducible apply Ent.refl) | (apply Ent.cons; case h => first | (with_reducible (repeat first | apply Pull.here | apply Pull.there); done) | (repeat first | apply Pull.here | apply Pull.there))) (rd.U32_fn _ _ _ _))) ?_
  rintro _ _ ⟨rfl, rfl⟩
  rw [v3, l3, b3]
  refine TL.val rfl rfl rfl (Y.assign rfl rfl) ?_
  refine TL.val rfl rfl rfl (Y.assign rfl rfl) ?_
  refine TL.nil ?_
  refine TQ.next ?_
  refine TC.seq ?_
  refine TC.draws 4 [] (by kernel_rfl) (by kernel_rfl) (by repeat first | exact holds_nil | refine holds_cons inn ?_) ?_
  refine TA.takeP 0 rfl rfl rfl rfl (by kernel_rfl) (by kernel_rfl) (by kernel_rfl) rfl (fun _ _ _ h => h) (by first | exact Y.fieldAddrJ rfl fo58_2 rfl nqq | exact Y.fieldAddr rfl fo58_2 rfl nqq) ?_
  refine TA.take 1 rfl rfl rfl rfl (by kernel_rfl) (by kernel_rfl) (by kernel_rfl) rfl (by kernel_rfl) (by kernel_rfl) (fun _ _ _ h => h) (Y.sliceArr rfl Try.underlying40 sz5 rfl) ?_
  refine TA.takeP 2 rfl rfl rfl rfl (by kernel_rfl) (by kernel_rfl) (by kernel_rfl) rfl (fun _ _ _ h => h) (Y.move rfl rfl) ?_
  refine TA.one 3 (by kernel_rfl) rfl rfl rfl rfl (X.call rfl Try.func34 (by kernel_rfl) rfl rfl (Fn.preE (by repeat first | (with_reducible apply Ent.refl) | (apply Ent.cons; case h => first | (with_reducible (repeat first | apply Pull.here | apply Pull.there); done) | (repeat first | apply Pull.here | apply Pull.there))) (rd.Take_fn _ 12 _ _ (by omega) (by simp; omega) _))) ?_
  rintro _ _ ⟨a44, c44, rfl, rfl⟩
  rw [v4, l4, b4]
  refine ⟨(Or.inr (by repeat first | exact holds_nil | refine holds_cons inn ?_)), ?_⟩
  refine TA.one 4 (by kernel_rfl) rfl rfl rfl rfl (X.copyBlk (cs := msgC (clsP k) (mthP k) (fun _ => 0) (.slice none 0 0)) (cs' := msgC (clsP k) (mthP k) f (.slice none 0 0)) (news := (idL f).map v8) (m := (idL f).length) (sz := 1) rfl Try.underlying30 (by kernel_rfl) rfl rfl (Src.owns Try.underlying30 inn) pul (by simp) (by simp [msgC]) (by kernel_rfl)) ?_
  rintro _ _ ⟨rfl, rfl⟩
  refine ⟨(Or.inl (by kernel_rfl)), ?_⟩
  refine TA.done (by kernel_rfl) ?_
  refine TQ.next ?_
  refine TC.seq ?_
  refine TC.seq ?_
  refine TC.region ?_
  refine TL.val rfl rfl rfl (Y.move rfl rfl) ?_
  refine TL.eff rfl rfl rfl (X.call rfl Try.func35 (by kernel_rfl) rfl rfl (Fn.preE (by repeat first | (with_reducible apply Ent.refl) | (apply Ent.cons; case h => first | (with_reducible (repeat first | apply Pull.here | apply Pull.there); done) | (repeat first | apply Pull.here | apply Pull.there))) (rd.Bad_fn _ _ _ _))) ?_
  rintro _ _ ⟨rfl, rfl⟩
  refine TL.val rfl rfl rfl (Y.move rfl rfl) ?_
  refine TL.valG rfl rfl rfl (Y.move rfl rfl) ?_
  refine TL.valG rfl rfl rfl (Y.bin rfl rfl rfl (br_geN (n := 16384))) ?_
  refine TL.is false (by first | rfl | (simp only [decide_eq_true_eq, decide_eq_false_iff_not, Bool.not_eq_true', Bool.not_eq_false', Bool.not_eq_eq_eq_not, Bool.not_true, Bool.not_false, Nat.not_lt, Nat.not_le]; omega) | (simp [*]; done) | (simp; omega)) ?_
  refine TL.val rfl rfl rfl (Y.pick_f rfl rfl rfl) ?_
  refine TL.val rfl rfl rfl (Y.move rfl rfl) ?_
  refine TL.valG rfl rfl rfl (Y.move rfl rfl) ?_
  refine TL.valG rfl rfl rfl (Y.move rfl rfl) ?_
  refine TL.effG rfl rfl rfl (X.call rfl Try.func36 (by kernel_rfl) rfl rfl (Fn.preE (by repeat first | (with_reducible apply Ent.refl) | (apply Ent.cons; case h => first | (with_reducible (repeat first | apply Pull.here | apply Pull.there); done) | (repeat first | apply Pull.here | apply Pull.there))) (rd.Left_fn _ _ _ _))) ?_
  rintro _ _ ⟨rfl, rfl⟩
  refine TL.valG rfl rfl rfl (Y.bin rfl rfl rfl (br_neN)) ?_
  refine TL.is false (by first | rfl | (simp only [decide_eq_true_eq, decide_eq_false_iff_not, Bool.not_eq_true', Bool.not_eq_false', Bool.not_eq_eq_eq_not, Bool.not_true, Bool.not_false, Nat.not_lt, Nat.not_le]; omega) | (simp [*]; done) | (simp; omega)) ?_
  refine TL.val rfl rfl rfl (Y.pick_f rfl rfl rfl) ?_
  refine TL.val rfl rfl rfl (Y.move rfl rfl) ?_
  refine TL.valG rfl rfl rfl (Y.move rfl rfl) ?_
  refine TL.valG rfl rfl rfl (Y.bin rfl rfl rfl (br_remN (n := 4) (by omega))) ?_
  refine TL.valG rfl rfl rfl (Y.bin rfl rfl rfl (br_neN (n := 0))) ?_
  refine TL.is false (by first | rfl | (simp only [decide_eq_true_eq, decide_eq_false_iff_not, Bool.not_eq_true', Bool.not_eq_false', Bool.not_eq_eq_eq_not, Bool.not_true, Bool.not_false, Nat.not_lt, Nat.not_le]; omega) | (simp [*]; done) | (simp; omega)) ?_
  refine TL.val rfl rfl rfl (Y.pick_f rfl rfl rfl) ?_
  refine TL.val rfl rfl rfl (Y.move rfl rfl) ?_
  refine TL.valG rfl rfl rfl (Y.move rfl rfl) ?_
  refine TL.valG rfl rfl rfl (Y.bin rfl rfl rfl (br_ne32 (y := 554869826))) ?_
  refine TL.is false (by first | rfl | (simp only [decide_eq_true_eq, decide_eq_false_iff_not, Bool.not_eq_true', Bool.not_eq_false', Bool.not_eq_eq_eq_not, Bool.not_true, Bool.not_false, Nat.not_lt, Nat.not_le]; omega) | (simp [*]; done) | (simp; omega)) ?_
  refine TL.val rfl rfl rfl (Y.pick_f rfl rfl rfl) ?_
  refine TL.val rfl rfl rfl (Y.move rfl rfl) ?_
  refine TL.valG rfl rfl rfl (Y.move rfl rfl) ?_
  refine TL.valG rfl rfl rfl (Y.len rfl Try.underlying30 rfl) ?_
  refine TL.valG rfl rfl rfl (Y.bin rfl rfl rfl (br_gtN (n := 1500))) ?_
  refine TL.is false (by first | rfl | (simp only [decide_eq_true_eq, decide_eq_false_iff_not, Bool.not_eq_true', Bool.not_eq_false', Bool.not_eq_eq_eq_not, Bool.not_true, Bool.not_false, Nat.not_lt, Nat.not_le]; omega) | (simp [*]; done) | (simp; omega)) ?_
  refine TL.val rfl rfl rfl (Y.pick_f rfl rfl rfl) ?_
  refine TL.nil ?_
  refine TQ.next ?_
  refine TC.cond_f rfl ?_
  refine TC.skip ?_
  refine TQ.next ?_
  refine TC.seq ?_
  refine TC.block ?_
  refine TC.to (Ent.nilOwn 76 2) ?_
  refine TC.to (Ent.rdss0) ?_
  refine TC.loopF (ι := List UInt8 × Bool × Option Addr × Nat × List At) [3] (fun i => LI rest i.1 i.2.1 (i.2.2.2.2.map pl)) (fun i => []) (fun i => [rd.R p14 i.1 i.2.1, SA.blk b6 (msgC (clsP k) (mthP k) f (.slice i.2.2.1 i.2.2.2.2.length i.2.2.2.1)) 58, SA.owns 76 2 (.slice i.2.2.1 i.2.2.2.2.length i.2.2.2.1) i.2.2.2.2.length (Dat.cs i.2.2.2.2), SA.rdss (i.2.2.2.2.flatMap Dat.g)]) (fun i => i.1.length + (if i.2.1 then 0 else 1)) ((rest, false, none, 0, [])) (LI.start rest) trivial (Pulls.cons pul (Pulls.cons pul (Pulls.cons pul (Pulls.cons pul Pulls.nil)))) ?_
  rintro ⟨l, bad, ya, yc, xs⟩ hI F' L' rfl hL'
  simp only [List.cons_append, List.nil_append] at hL'
  subst hL'
  simp only at hI ⊢
  have hlen := hI.len
  rw [List.length_map] at hlen
  refine TC.seq ?_
  refine TC.seq ?_
  refine TC.region ?_
  refine TL.val rfl rfl rfl (Y.move rfl rfl) ?_
  refine TL.eff rfl rfl rfl (X.call rfl Try.func36 (by kernel_rfl) rfl rfl (Fn.preE (by repeat first | (with_reducible apply Ent.refl) | (apply Ent.cons; case h => first | (with_reducible (repeat first | apply Pull.here | apply Pull.there); done) | (repeat first | apply Pull.here | apply Pull.there))) (rd.Left_fn _ _ _ _))) ?_
  rintro _ _ ⟨rfl, rfl⟩
  refine TL.val rfl rfl rfl (Y.bin rfl rfl rfl (br_gtN (n := 0))) ?_
  refine TL.val rfl rfl rfl (Y.move rfl rfl) ?_
  refine TL.case (fun g8_3 => ?_) (fun g8_3 => ?_)
  · try simp only [decide_eq_true_eq, decide_eq_false_iff_not, Bool.not_eq_true', Bool.not_eq_false', Nat.not_lt, Nat.not_le, beq_iff_eq, bne_iff_ne] at g8_3
    refine TL.valG rfl rfl rfl (Y.move rfl rfl) ?_
    refine TL.effG rfl rfl rfl (X.call rfl Try.func35 (by kernel_rfl) rfl rfl (Fn.preE (by repeat first | (with_reducible apply Ent.refl) | (apply Ent.cons; case h => first | (with_reducible (repeat first | apply Pull.here | apply Pull.there); done) | (repeat first | apply Pull.here | apply Pull.there))) (rd.Bad_fn _ _ _ _))) ?_
    rintro _ _ ⟨rfl, rfl⟩
    refine TL.valG rfl rfl rfl (Y.not rfl rfl) ?_
    refine TL.val rfl rfl rfl (Y.pick_t rfl rfl rfl) ?_
    refine TL.nil ?_
    refine TQ.next ?_
    refine TC.cond rfl (fun c1 => ?_) (fun c1 => ?_)
    · try simp only [decide_eq_true_eq, decide_eq_false_iff_not, Bool.not_eq_true', Bool.not_eq_false', Bool.and_eq_true, Bool.or_eq_true, Nat.not_lt, Nat.not_le, beq_iff_eq, bne_iff_ne] at c1
      subst c1
      have hl0 : l ≠ [] := by intro e; rw [e] at g8_3; simp at g8_3
      have hlen0 : 4 * xs.length + l.length ≤ rest.length := by simpa using hlen
      refine TC.skip ?_
      refine TQ.next ?_
      refine TC.block ?_
      refine TC.seq ?_
      refine TC.region ?_
      refine TL.val rfl rfl rfl (Y.move rfl rfl) ?_
      refine TL.eff rfl rfl rfl (X.call rfl Try.func32 (by kernel_rfl) rfl rfl (Fn.preE (by repeat first | (with_reducible apply Ent.refl) | (apply Ent.cons; case h => first | (with_reducible (repeat first | apply Pull.here | apply Pull.there); done) | (repeat first | apply Pull.here | apply Pull.there))) (rd.U16_fn _ _ _ _))) ?_
      rintro _ _ ⟨rfl, rfl⟩
      obtain ⟨t, ht⟩ : ∃ x, x = (num (rdV 2 l false)).toUInt16 := ⟨_, rfl⟩
      obtain ⟨w1, hw1⟩ : ∃ x, x = rdL 2 l false := ⟨_, rfl⟩
      obtain ⟨d1, hd1⟩ : ∃ x, x = rdB 2 l false := ⟨_, rfl⟩
      have hw1' : w1.length ≤ l.length := by rw [hw1]; exact rd.rdL_len ..
      rw [← ht, ← hw1, ← hd1]
      refine TL.val rfl rfl rfl (Y.buildS (cells := #[v16 t, .slice none 0 0]) rfl rfl pl76 zc76 (by kernel_rfl)) ?_
      refine TL.eff rfl rfl rfl (X.alloc rfl zc76) ?_
      rintro _ _ ⟨b9, rfl, rfl⟩
      refine TL.eff0 rfl rfl (by first | exact X.storeAll rfl sz76 (by rfl) rfl rfl (allOne (by rfl)) pul (by rfl) | exact X.storeAll rfl sz76 szz rfl rfl (by simp [Value.oneCell']) pul szz | exact X.storeAgg rfl sz76 szz rfl rfl (by simp [Value.oneCell']) pul szz (writeM (by ((try simp only [List.length_set, List.length_map, List.length_append, List.length_replicate]); omega)))) ?_
      rintro _ _ rfl
      refine TL.nil ?_
      refine TQ.next ?_
      refine TC.seq ?_
      refine TC.region ?_
      refine TL.val rfl rfl rfl (Y.move rfl rfl) ?_
      refine TL.eff rfl rfl rfl (X.call rfl Try.func32 (by kernel_rfl) rfl rfl (Fn.preE (by repeat first | (with_reducible apply Ent.refl) | (apply Ent.cons; case h => first | (with_reducible (repeat first | apply Pull.here | apply Pull.there); done) | (repeat first | apply Pull.here | apply Pull.there))) (rd.U16_fn _ _ _ _))) ?_
      rintro _ _ ⟨rfl, rfl⟩
      obtain ⟨j, hj⟩ : ∃ x, x = (num (rdV 2 w1 d1)).toUInt16 := ⟨_, rfl⟩
      obtain ⟨w2, hw2⟩ : ∃ x, x = rdL 2 w1 d1 := ⟨_, rfl⟩
      obtain ⟨d2, hd2⟩ : ∃ x, x = rdB 2 w1 d1 := ⟨_, rfl⟩
      have hw2' : w2.length ≤ w1.length := by rw [hw2]; exact rd.rdL_len ..
      have hj' := j.toNat_lt
      rw [← hj, ← hw2, ← hd2]
      refine TL.val rfl rfl rfl (Y.conv rfl Try.underlying22 Try.underlying3 rfl (cv_16_N)) ?_
      refine TL.val rfl rfl rfl (Y.assign rfl rfl) ?_
      refine TL.nil ?_
      refine TQ.next ?_
      refine TC.seq ?_
      refine TC.region ?_
      refine TL.val rfl rfl rfl (Y.move rfl rfl) ?_
      refine TL.val rfl rfl rfl (Y.move rfl rfl) ?_
      refine TL.eff rfl rfl rfl (X.call rfl Try.func34 (by kernel_rfl) rfl rfl (Fn.preE (by repeat first | (with_reducible apply Ent.refl) | (apply Ent.cons; case h => first | (with_reducible (repeat first | apply Pull.here | apply Pull.there); done) | (repeat first | apply Pull.here | apply Pull.there))) (rd.Take_fn _ _ _ _ (by omega) (by omega) _))) ?_
      rintro _ _ ⟨a89, c89, rfl, rfl⟩
      obtain ⟨v, hv⟩ : ∃ x, x = rdV j.toNat w2 d2 := ⟨_, rfl⟩
      obtain ⟨w3, hw3⟩ : ∃ x, x = rdL j.toNat w2 d2 := ⟨_, rfl⟩
      obtain ⟨d3, hd3⟩ : ∃ x, x = rdB j.toNat w2 d2 := ⟨_, rfl⟩
      have hw3' : w3.length ≤ w2.length := by rw [hw3]; exact rd.rdL_len ..
      have hv' : v.length ≤ j.toNat := by rw [hv]; exact rdV_le ..
      rw [← hv, ← hw3, ← hd3]
      refine TL.val rfl rfl rfl (by first | exact Y.fieldAddrJ rfl fo76_1 rfl nqq | exact Y.fieldAddr rfl fo76_1 rfl nqq) ?_
      refine TL.eff0 rfl rfl (by first | exact X.store rfl sz30 rfl rfl rfl pul lnn (by first | exact setM | rfl) | exact X.storeOwn rfl sz30 rfl (Nat.zero_add _).symm rfl rfl pul lnn (by first | exact setML | rfl) | exact X.storeOwn rfl sz30 rfl rfl rfl rfl pul lnn (by first | exact setML | rfl)) ?_
      rintro _ _ rfl
      rw [show (#[v16 t, .slice none 0 0] : Array Value).setIfInBounds 1 (.slice a89 v.length c89) = #[v16 t, .slice a89 v.length c89] from rfl]
      refine TL.nil ?_
      refine TQ.next ?_
      refine TC.seq ?_
      refine TC.seq ?_
      refine TC.region ?_
      refine TL.val rfl rfl rfl (Y.move rfl rfl) ?_
      refine TL.val rfl rfl rfl (Y.move rfl rfl) ?_
      refine TL.val rfl rfl rfl (Y.negI rfl rfl (by omega) (by omega)) ?_
      refine TL.val rfl rfl rfl (Y.bin rfl rfl rfl (br_negand3 (by omega))) ?_
      refine TL.eff rfl rfl rfl (X.call rfl Try.func34 (by kernel_rfl) rfl rfl (Fn.preE (by repeat first | (with_reducible apply Ent.refl) | (apply Ent.cons; case h => first | (with_reducible (repeat first | apply Pull.here | apply Pull.there); done) | (repeat first | apply Pull.here | apply Pull.there))) (rd.Take_fn _ _ _ _ (by omega) (by omega) _))) ?_
      rintro _ _ ⟨a95, c95, rfl, rfl⟩
      obtain ⟨w, hw⟩ : ∃ x, x = rdV ((4 - j.toNat % 4) % 4) w3 d3 := ⟨_, rfl⟩
      obtain ⟨w4, hw4⟩ : ∃ x, x = rdL ((4 - j.toNat % 4) % 4) w3 d3 := ⟨_, rfl⟩
      obtain ⟨d4, hd4⟩ : ∃ x, x = rdB ((4 - j.toNat % 4) % 4) w3 d3 := ⟨_, rfl⟩
      have hw4' : w4.length ≤ w3.length := by rw [hw4]; exact rd.rdL_len ..
      have hww : w.length ≤ (4 - j.toNat % 4) % 4 := by rw [hw]; exact rdV_le ..
      have hR : atRead l = ⟨t, j.toNat, v, w, w4, d4⟩ := by rw [hw, hw4, hd4, hw3, hd3, hv, hw2, hd2, hj, hw1, hd1, ht]; rfl
      rw [← hw, ← hw4, ← hd4]
      clear hw hw4 hd4
      refine TL.val rfl rfl rfl (Y.len rfl Try.underlying30 rfl) ?_
      refine TL.val rfl rfl rfl (Y.move rfl rfl) ?_
      refine TL.nil ?_
      refine TQ.next ?_
      refine TC.block ?_
      refine TC.loopF (ι := Nat) [3] (fun i => i ≤ w.length ∧ ∀ x ∈ w.take i, x = 0) (fun i => [(97, some (vN i))]) (fun i => []) (fun i => w.length - i) (0) (⟨by omega, by simp⟩) ⟨rfl, trivial⟩ Pulls.nil ?_
      rintro i ⟨hi, hz⟩ F' L' rfl hL'
      simp only [List.cons_append, List.nil_append] at hL'
      subst hL'
      refine TC.seq ?_
      refine TC.region ?_
      refine TL.val rfl rfl rfl (Y.bin rfl rfl rfl (br_ltN)) ?_
      refine TL.nil ?_
      refine TQ.next ?_
      refine TC.seq ?_
      refine TC.cond rfl (fun c2 => ?_) (fun c2 => ?_)
      · try simp only [decide_eq_true_eq, decide_eq_false_iff_not, Bool.not_eq_true', Bool.not_eq_false', Bool.and_eq_true, Bool.or_eq_true, Nat.not_lt, Nat.not_le, beq_iff_eq, bne_iff_ne] at c2
        refine TC.skip ?_
        refine TQ.next ?_
        refine TC.seq ?_
        refine TC.block ?_
        refine TC.seq ?_
        refine TC.know (owns_some (n := w.length) (a := a95) inn (by omega)) ?_
        rintro ⟨g, off, rfl⟩
        refine TC.region ?_
        refine TL.val rfl rfl rfl (by first | exact Y.indexSlB rfl sl30 rfl rfl (by omega) nqq | exact Y.indexSl rfl sl30 rfl rfl (by omega) nqq) ?_
        refine TL.val rfl rfl rfl (Y.load rfl sc5 rfl cel8) ?_
        refine TL.val rfl rfl rfl (Y.assign rfl rfl) ?_
        refine TL.nil ?_
        refine TQ.next ?_
        refine TC.seq ?_
        refine TC.region ?_
        refine TL.val rfl rfl rfl (Y.move rfl rfl) ?_
        refine TL.val rfl rfl rfl (Y.bin rfl rfl rfl (br_ne8 (y := 0))) ?_
        refine TL.nil ?_
        refine TQ.next ?_
        refine TC.cond rfl (fun c3 => ?_) (fun c3 => ?_)
        · try simp only [decide_eq_true_eq, decide_eq_false_iff_not, Bool.not_eq_true', Bool.not_eq_false', Bool.and_eq_true, Bool.or_eq_true, Nat.not_lt, Nat.not_le, beq_iff_eq, bne_iff_ne] at c3
          have hbadR := parse_none hb (hI.stuck hl0 (Or.inr ⟨w.getD i 0, by rw [hR]; exact getD_mem0 (by omega), c3⟩))
          refine TC.seq ?_
          refine TC.region ?_
          refine TL.val rfl rfl rfl (Y.buildS rfl rfl pl58 zc58 rfl) ?_
          refine TL.as (.agg zmsg) (by rfl) ?_
          refine TL.eff0 rfl rfl (by first | exact X.storeAll rfl sz58 (by rfl) rfl rfl (allOne (by rfl)) pul (by rfl) | exact X.storeAll rfl sz58 szz rfl rfl (by simp [Value.oneCell']) pul szz | exact X.storeAgg rfl sz58 szz rfl rfl (by simp [Value.oneCell']) pul szz (writeM (by ((try simp only [List.length_set, List.length_map, List.length_append, List.length_replicate]); omega)))) ?_
          rintro _ _ rfl
          refine TL.val rfl rfl rfl (Y.assign rfl rfl) ?_
          refine TL.nil ?_
          refine TQ.next ?_
          refine TC.ret ?_
          refine TQ.block_ret ?_
          refine TQ.then_ret ?_
          refine TQ.then_ret ?_
          refine TQ.block_ret ?_
          refine TQ.then_ret ?_
          refine TQ.block_ret ?_
          refine TQ.then_ret ?_
          refine TQ.block_ret ?_
          refine TQ.then_ret ?_
          refine TQ.retE (resL rfl (Res.agg rfl ag58 (by first | exact Cels.all (cs := zmsg) inn | exact Cels.all (cs := msgC (clsP k) (mthP k) f (.slice ya xs.length yc)) inn) (by first | rfl | assumption | omega) (Res.tmp rfl Res.nil))) ((by first | exact ⟨_, _, _, _, _, xs, 0, rfl, .inl ⟨rfl, hgoodR⟩, rfl⟩ | exact ⟨0, 0, fun _ => 0, none, 0, [], 2, rfl, .inr ⟨rfl, rfl, rfl, rfl, rfl, hbadR⟩, rfl⟩)) ?_
          exact (by first | (have _h := hgoodR; exact ett) | (have _h := hbadR; exact Ent.trans (Ent.nilOwn 76 2) (Ent.trans (Ent.under _ Ent.rdss0) (Ent.trans (Ent.mkOwn (l := ([] : List At)) Pull.here Pull.here rfl rfl rfl) ett))))
        · try simp only [decide_eq_true_eq, decide_eq_false_iff_not, Bool.not_eq_true', Bool.not_eq_false', Bool.and_eq_true, Bool.or_eq_true, Nat.not_lt, Nat.not_le, beq_iff_eq, bne_iff_ne] at c3
          refine TC.skip ?_
          refine TQ.block_normal ?_
          refine TQ.next ?_
          refine TC.region ?_
          refine TL.val rfl rfl rfl (Y.bin rfl rfl rfl (br_addN (n := 1) (by omega))) ?_
          refine TL.val rfl rfl rfl (Y.move rfl rfl) ?_
          refine TL.nil ?_
          refine TQ.loopF (i + 1) (⟨by omega, take_zero hz (by omega) c3⟩) (by omega) ⟨rfl, trivial⟩ (by (repeat first | apply Grow.refl | apply Grow.step | apply Grow.app)) ?_ ?_ ?_
          · kernel_rfl
          · rfl
          · simp only [List.cons_append, List.nil_append]
            exact ett
      · try simp only [decide_eq_true_eq, decide_eq_false_iff_not, Bool.not_eq_true', Bool.not_eq_false', Bool.and_eq_true, Bool.or_eq_true, Nat.not_lt, Nat.not_le, beq_iff_eq, bne_iff_ne] at c2
        refine TC.exit ?_
        refine TQ.then_exit ?_
        refine TQ.then_exit ?_
        refine TQ.block_exit ?_
        refine TQ.next ?_
        obtain rfl : i = w.length := by omega
        rw [List.take_length] at hz
        refine TC.region ?_
        refine TL.val rfl rfl rfl (by first | exact Y.fieldAddrJ rfl fo58_3 rfl nqq | exact Y.fieldAddr rfl fo58_3 rfl nqq) ?_
        refine TL.val rfl rfl rfl (Y.load rfl sc56 rfl celD) ?_
        refine TL.val rfl rfl rfl (Y.loadAgg rfl ag76 rfl (by first | exact Cels.datAt inn (by assumption) | exact Cels.full inn) (by first | rfl | ((try simp only [List.length_map, List.length_set, List.length_replicate]); omega))) ?_
        refine TL.eff rfl rfl rfl (X.litA (bytes := 0) (z := .nilFunc) rfl Try.underlying56 zs76 rfl rfl rfl (by decide) (by decide) (by decide) rfl (cells := [v16 t, .slice a89 v.length c89]) rfl rfl) ?_
        rintro _ _ ⟨g108, rfl, rfl⟩
        refine TL.eff rfl rfl rfl (X.appendS rfl el56 rfl pul rfl (by first | exact Src.owns Try.underlying56 inn | exact Src.rds Try.underlying56 inn | exact Src.reads (by assumption) Try.underlying56 inn) (by simp only [maxLen]; omega) (by omega)) ?_
        rintro _ _ ⟨a109, c109, rfl, rfl⟩
        rw [show Dat.cs xs ++ [v16 t, .slice a89 v.length c89] = Dat.cs (xs ++ [((t, ⟨a89, c89, v⟩) : At)]) from (Dat.cs_app xs [((t, ⟨a89, c89, v⟩) : At)]).symm, show xs.length + 1 = (xs ++ [((t, ⟨a89, c89, v⟩) : At)]).length by simp]
        refine TL.val rfl rfl rfl (by first | exact Y.fieldAddrJ rfl fo58_3 rfl nqq | exact Y.fieldAddr rfl fo58_3 rfl nqq) ?_
        refine TL.eff0 rfl rfl (X.store rfl (by kernel_rfl) rfl rfl rfl pul (by rw [msgC_size]; omega) rfl) ?_
        rintro _ _ rfl
        rw [show (msgC (clsP k) (mthP k) f (.slice ya xs.length yc)).setIfInBounds 14 (.slice a109 (xs ++ [((t, ⟨a89, c89, v⟩) : At)]).length c109) = msgC (clsP k) (mthP k) f (.slice a109 (xs ++ [((t, ⟨a89, c89, v⟩) : At)]).length c109) from rfl]
        refine TL.nil ?_
        refine TQ.block_normal ?_
        refine TQ.to ((Ent.mkAt (t := t) (a := a89) pul rfl).trans (Ent.addEl pul pul)) ?_
        have hI' := hI.step hl0 (by rw [hR]; exact hz) (by rw [hR]; show v.length < 65536; omega) (by rw [hR]; show w4.length ≤ l.length; omega)
        have hd' := LI.dec (l := l) (by rw [hR]; show w4.length ≤ l.length; omega) (by rw [hR]; exact hz)
        rw [hR] at hI' hd'
        refine TQ.loopF ((w4, d4, a109, c109, xs ++ [(t, ⟨a89, c89, v⟩)])) ((by rw [List.map_append]; exact hI')) (hd') trivial (by (repeat first | apply Grow.refl | apply Grow.step | apply Grow.app)) ?_ ?_ ?_
        · kernel_rfl
        · rfl
        · simp only [List.cons_append, List.nil_append]
          exact ett
    · try simp only [decide_eq_true_eq, decide_eq_false_iff_not, Bool.not_eq_true', Bool.not_eq_false', Bool.and_eq_true, Bool.or_eq_true, Nat.not_lt, Nat.not_le, beq_iff_eq, bne_iff_ne] at c1
      refine TC.exit ?_
      refine TQ.then_exit ?_
      refine TQ.then_exit ?_
      refine TQ.block_exit ?_
      refine TQ.next ?_
      refine TC.seq ?_
      refine TC.seq ?_
      refine TC.region ?_
      refine TL.val rfl rfl rfl (Y.move rfl rfl) ?_
      refine TL.eff rfl rfl rfl (X.call rfl Try.func35 (by kernel_rfl) rfl rfl (Fn.preE (by repeat first | (with_reducible apply Ent.refl) | (apply Ent.cons; case h => first | (with_reducible (repeat first | apply Pull.here | apply Pull.there); done) | (repeat first | apply Pull.here | apply Pull.there))) (rd.Bad_fn _ _ _ _))) ?_
      rintro _ _ ⟨rfl, rfl⟩
      refine TL.val rfl rfl rfl (Y.move rfl rfl) ?_
      refine TL.case (fun g19_2 => ?_) (fun g19_2 => ?_)
      · try simp only [decide_eq_true_eq, decide_eq_false_iff_not, Bool.not_eq_true', Bool.not_eq_false', Nat.not_lt, Nat.not_le, beq_iff_eq, bne_iff_ne] at g19_2
        refine TL.not rfl rfl rfl ?_
        refine TL.to (Ent.mkOwn (a := ya) (l := xs) pul pul rfl rfl rfl) ?_
        refine TL.not rfl rfl rfl ?_
        refine TL.not rfl rfl rfl ?_
        refine TL.val rfl rfl rfl (Y.pick_t rfl rfl rfl) ?_
        refine TL.nil ?_
        refine TQ.next ?_
        refine TC.cond_t rfl ?_
        refine TC.seq ?_
        have hbadR : ∀ x : SMsg, x.id.length = 12 → x.build ≠ some b := by
          first
          | exact parse_none hb (hI.no g19_2)
          | exact absurd (c1.symm.trans g19_2) (by decide)
          | (obtain rfl : l = [] := List.eq_nil_of_length_eq_zero (by omega); subst g19_2; exact parse_bad hb hk hI c4)
        refine TC.region ?_
        refine TL.val rfl rfl rfl (Y.buildS rfl rfl pl58 zc58 rfl) ?_
        refine TL.as (.agg zmsg) (by rfl) ?_
        refine TL.eff0 rfl rfl (by first | exact X.storeAll rfl sz58 (by rfl) rfl rfl (allOne (by rfl)) pul (by rfl) | exact X.storeAll rfl sz58 szz rfl rfl (by simp [Value.oneCell']) pul szz | exact X.storeAgg rfl sz58 szz rfl rfl (by simp [Value.oneCell']) pul szz (writeM (by ((try simp only [List.length_set, List.length_map, List.length_append, List.length_replicate]); omega)))) ?_
        rintro _ _ rfl
        refine TL.val rfl rfl rfl (Y.assign rfl rfl) ?_
        refine TL.nil ?_
        refine TQ.next ?_
        refine TC.ret ?_
        refine TQ.then_ret ?_
        refine TQ.retE (resL rfl (Res.agg rfl ag58 (by first | exact Cels.all (cs := zmsg) inn | exact Cels.all (cs := msgC (clsP k) (mthP k) f (.slice ya xs.length yc)) inn) (by first | rfl | assumption | omega) (Res.tmp rfl Res.nil))) ((by first | exact ⟨_, _, _, _, _, xs, 0, rfl, .inl ⟨rfl, hgoodR⟩, rfl⟩ | exact ⟨0, 0, fun _ => 0, none, 0, [], 2, rfl, .inr ⟨rfl, rfl, rfl, rfl, rfl, hbadR⟩, rfl⟩)) ?_
        exact (by first | (have _h := hgoodR; exact ett) | (have _h := hbadR; exact Ent.trans (Ent.nilOwn 76 2) (Ent.trans (Ent.under _ Ent.rdss0) (Ent.trans (Ent.mkOwn (l := ([] : List At)) Pull.here Pull.here rfl rfl rfl) ett))))
      · try simp only [decide_eq_true_eq, decide_eq_false_iff_not, Bool.not_eq_true', Bool.not_eq_false', Nat.not_lt, Nat.not_le, beq_iff_eq, bne_iff_ne] at g19_2
        refine TL.valG rfl rfl rfl (Y.loadAgg rfl ag58 rfl (Cels.all (cs := msgC (clsP k) (mthP k) f (.slice ya xs.length yc)) inn) (by first | rfl | ((try simp only [List.length_map, List.length_set, List.length_replicate]); omega))) ?_
        refine TL.as (.agg (msgC (clsP k) (mthP k) f (.slice ya xs.length yc))) (by rfl) ?_
        refine TL.to (Ent.mkOwn (a := ya) (l := xs) pul pul rfl rfl rfl) ?_
        refine TL.effG rfl rfl rfl (X.call rfl Try.func37 (by kernel_rfl) rfl rfl (Fn.preE (by repeat first | (with_reducible apply Ent.refl) | (apply Ent.cons; case h => first | (with_reducible (repeat first | apply Pull.here | apply Pull.there); done) | (repeat first | apply Pull.here | apply Pull.there))) (stun.good_fn _ _ _ _ _ _ _))) ?_
        rintro _ _ ⟨rfl, rfl⟩
        refine TL.valG rfl rfl rfl (Y.not rfl rfl) ?_
        refine TL.val rfl rfl rfl (Y.pick_f rfl rfl rfl) ?_
        refine TL.nil ?_
        refine TQ.next ?_
        refine TC.cond rfl (fun c4 => ?_) (fun c4 => ?_)
        · try simp only [decide_eq_true_eq, decide_eq_false_iff_not, Bool.not_eq_true', Bool.not_eq_false', Bool.and_eq_true, Bool.or_eq_true, Nat.not_lt, Nat.not_le, beq_iff_eq, bne_iff_ne] at c4
          refine TC.seq ?_
          have hbadR : ∀ x : SMsg, x.id.length = 12 → x.build ≠ some b := by
            first
            | exact parse_none hb (hI.no g19_2)
            | exact absurd (c1.symm.trans g19_2) (by decide)
            | (obtain rfl : l = [] := List.eq_nil_of_length_eq_zero (by omega); subst g19_2; exact parse_bad hb hk hI c4)
          refine TC.region ?_
          refine TL.val rfl rfl rfl (Y.buildS rfl rfl pl58 zc58 rfl) ?_
          refine TL.as (.agg zmsg) (by rfl) ?_
          refine TL.eff0 rfl rfl (by first | exact X.storeAll rfl sz58 (by rfl) rfl rfl (allOne (by rfl)) pul (by rfl) | exact X.storeAll rfl sz58 szz rfl rfl (by simp [Value.oneCell']) pul szz | exact X.storeAgg rfl sz58 szz rfl rfl (by simp [Value.oneCell']) pul szz (writeM (by ((try simp only [List.length_set, List.length_map, List.length_append, List.length_replicate]); omega)))) ?_
          rintro _ _ rfl
          refine TL.val rfl rfl rfl (Y.assign rfl rfl) ?_
          refine TL.nil ?_
          refine TQ.next ?_
          refine TC.ret ?_
          refine TQ.then_ret ?_
          refine TQ.retE (resL rfl (Res.agg rfl ag58 (by first | exact Cels.all (cs := zmsg) inn | exact Cels.all (cs := msgC (clsP k) (mthP k) f (.slice ya xs.length yc)) inn) (by first | rfl | assumption | omega) (Res.tmp rfl Res.nil))) ((by first | exact ⟨_, _, _, _, _, xs, 0, rfl, .inl ⟨rfl, hgoodR⟩, rfl⟩ | exact ⟨0, 0, fun _ => 0, none, 0, [], 2, rfl, .inr ⟨rfl, rfl, rfl, rfl, rfl, hbadR⟩, rfl⟩)) ?_
          exact (by first | (have _h := hgoodR; exact ett) | (have _h := hbadR; exact Ent.trans (Ent.nilOwn 76 2) (Ent.trans (Ent.under _ Ent.rdss0) (Ent.trans (Ent.mkOwn (l := ([] : List At)) Pull.here Pull.here rfl rfl rfl) ett))))
        · try simp only [decide_eq_true_eq, decide_eq_false_iff_not, Bool.not_eq_true', Bool.not_eq_false', Bool.and_eq_true, Bool.or_eq_true, Nat.not_lt, Nat.not_le, beq_iff_eq, bne_iff_ne] at c4
          refine TC.skip ?_
          refine TQ.next ?_
          refine TC.seq ?_
          have hgoodR : (⟨clsP k, mthP k, idL f, xs.map pl⟩ : SMsg).build = some b := by
            first
            | exact absurd (c1.symm.trans g19_2) (by decide)
            | (obtain rfl : l = [] := List.eq_nil_of_length_eq_zero (by omega); subst g19_2; exact parse_yes hb hk hg1 hg2 hg4 hg5 hI c4)
          refine TC.region ?_
          refine TL.val rfl rfl rfl (Y.loadAgg rfl ag58 rfl (Cels.all (cs := msgC (clsP k) (mthP k) f (.slice ya xs.length yc)) inn) (by first | rfl | ((try simp only [List.length_map, List.length_set, List.length_replicate]); omega))) ?_
          refine TL.as (.agg (msgC (clsP k) (mthP k) f (.slice ya xs.length yc))) (by rfl) ?_
          refine TL.eff0 rfl rfl (X.storeAll rfl (by kernel_rfl) (msgC_size _ _ f _) rfl rfl (msg_one _ _ f _ _ _) pul rfl) ?_
          rintro _ _ rfl
          refine TL.val rfl rfl rfl (Y.assign rfl rfl) ?_
          refine TL.nil ?_
          refine TQ.next ?_
          refine TC.ret ?_
          refine TQ.retE (resL rfl (Res.agg rfl ag58 (by first | exact Cels.all (cs := zmsg) inn | exact Cels.all (cs := msgC (clsP k) (mthP k) f (.slice ya xs.length yc)) inn) (by first | rfl | assumption | omega) (Res.tmp rfl Res.nil))) ((by first | exact ⟨_, _, _, _, _, xs, 0, rfl, .inl ⟨rfl, hgoodR⟩, rfl⟩ | exact ⟨0, 0, fun _ => 0, none, 0, [], 2, rfl, .inr ⟨rfl, rfl, rfl, rfl, rfl, hbadR⟩, rfl⟩)) ?_
          exact (by first | (have _h := hgoodR; exact ett) | (have _h := hbadR; exact Ent.trans (Ent.nilOwn 76 2) (Ent.trans (Ent.under _ Ent.rdss0) (Ent.trans (Ent.mkOwn (l := ([] : List At)) Pull.here Pull.here rfl rfl rfl) ett))))
  · try simp only [decide_eq_true_eq, decide_eq_false_iff_not, Bool.not_eq_true', Bool.not_eq_false', Nat.not_lt, Nat.not_le, beq_iff_eq, bne_iff_ne] at g8_3
    refine TL.not rfl rfl rfl ?_
    refine TL.not rfl rfl rfl ?_
    refine TL.not rfl rfl rfl ?_
    refine TL.val rfl rfl rfl (Y.pick_f rfl rfl rfl) ?_
    refine TL.nil ?_
    refine TQ.next ?_
    refine TC.cond_f rfl ?_
    refine TC.exit ?_
    refine TQ.then_exit ?_
    refine TQ.then_exit ?_
    refine TQ.block_exit ?_
    refine TQ.next ?_
    refine TC.seq ?_
    refine TC.seq ?_
    refine TC.region ?_
    refine TL.val rfl rfl rfl (Y.move rfl rfl) ?_
    refine TL.eff rfl rfl rfl (X.call rfl Try.func35 (by kernel_rfl) rfl rfl (Fn.preE (by repeat first | (with_reducible apply Ent.refl) | (apply Ent.cons; case h => first | (with_reducible (repeat first | apply Pull.here | apply Pull.there); done) | (repeat first | apply Pull.here | apply Pull.there))) (rd.Bad_fn _ _ _ _))) ?_
    rintro _ _ ⟨rfl, rfl⟩
    refine TL.val rfl rfl rfl (Y.move rfl rfl) ?_
    refine TL.case (fun g19_2 => ?_) (fun g19_2 => ?_)
    · try simp only [decide_eq_true_eq, decide_eq_false_iff_not, Bool.not_eq_true', Bool.not_eq_false', Nat.not_lt, Nat.not_le, beq_iff_eq, bne_iff_ne] at g19_2
      refine TL.not rfl rfl rfl ?_
      refine TL.to (Ent.mkOwn (a := ya) (l := xs) pul pul rfl rfl rfl) ?_
      refine TL.not rfl rfl rfl ?_
      refine TL.not rfl rfl rfl ?_
      refine TL.val rfl rfl rfl (Y.pick_t rfl rfl rfl) ?_
      refine TL.nil ?_
      refine TQ.next ?_
      refine TC.cond_t rfl ?_
      refine TC.seq ?_
      have hbadR : ∀ x : SMsg, x.id.length = 12 → x.build ≠ some b := by
        first
        | exact parse_none hb (hI.no g19_2)
        | exact absurd (c1.symm.trans g19_2) (by decide)
        | (obtain rfl : l = [] := List.eq_nil_of_length_eq_zero (by omega); subst g19_2; exact parse_bad hb hk hI c4)
      refine TC.region ?_
      refine TL.val rfl rfl rfl (Y.buildS rfl rfl pl58 zc58 rfl) ?_
      refine TL.as (.agg zmsg) (by rfl) ?_
      refine TL.eff0 rfl rfl (by first | exact X.storeAll rfl sz58 (by rfl) rfl rfl (allOne (by rfl)) pul (by rfl) | exact X.storeAll rfl sz58 szz rfl rfl (by simp [Value.oneCell']) pul szz | exact X.storeAgg rfl sz58 szz rfl rfl (by simp [Value.oneCell']) pul szz (writeM (by ((try simp only [List.length_set, List.length_map, List.length_append, List.length_replicate]); omega)))) ?_
      rintro _ _ rfl
      refine TL.val rfl rfl rfl (Y.assign rfl rfl) ?_
      refine TL.nil ?_
      refine TQ.next ?_
      refine TC.ret ?_
      refine TQ.then_ret ?_
      refine TQ.retE (resL rfl (Res.agg rfl ag58 (by first | exact Cels.all (cs := zmsg) inn | exact Cels.all (cs := msgC (clsP k) (mthP k) f (.slice ya xs.length yc)) inn) (by first | rfl | assumption | omega) (Res.tmp rfl Res.nil))) ((by first | exact ⟨_, _, _, _, _, xs, 0, rfl, .inl ⟨rfl, hgoodR⟩, rfl⟩ | exact ⟨0, 0, fun _ => 0, none, 0, [], 2, rfl, .inr ⟨rfl, rfl, rfl, rfl, rfl, hbadR⟩, rfl⟩)) ?_
      exact (by first | (have _h := hgoodR; exact ett) | (have _h := hbadR; exact Ent.trans (Ent.nilOwn 76 2) (Ent.trans (Ent.under _ Ent.rdss0) (Ent.trans (Ent.mkOwn (l := ([] : List At)) Pull.here Pull.here rfl rfl rfl) ett))))
    · try simp only [decide_eq_true_eq, decide_eq_false_iff_not, Bool.not_eq_true', Bool.not_eq_false', Nat.not_lt, Nat.not_le, beq_iff_eq, bne_iff_ne] at g19_2
      refine TL.valG rfl rfl rfl (Y.loadAgg rfl ag58 rfl (Cels.all (cs := msgC (clsP k) (mthP k) f (.slice ya xs.length yc)) inn) (by first | rfl | ((try simp only [List.length_map, List.length_set, List.length_replicate]); omega))) ?_
      refine TL.as (.agg (msgC (clsP k) (mthP k) f (.slice ya xs.length yc))) (by rfl) ?_
      refine TL.to (Ent.mkOwn (a := ya) (l := xs) pul pul rfl rfl rfl) ?_
      refine TL.effG rfl rfl rfl (X.call rfl Try.func37 (by kernel_rfl) rfl rfl (Fn.preE (by repeat first | (with_reducible apply Ent.refl) | (apply Ent.cons; case h => first | (with_reducible (repeat first | apply Pull.here | apply Pull.there); done) | (repeat first | apply Pull.here | apply Pull.there))) (stun.good_fn _ _ _ _ _ _ _))) ?_
      rintro _ _ ⟨rfl, rfl⟩
      refine TL.valG rfl rfl rfl (Y.not rfl rfl) ?_
      refine TL.val rfl rfl rfl (Y.pick_f rfl rfl rfl) ?_
      refine TL.nil ?_
      refine TQ.next ?_
      refine TC.cond rfl (fun c4 => ?_) (fun c4 => ?_)
      · try simp only [decide_eq_true_eq, decide_eq_false_iff_not, Bool.not_eq_true', Bool.not_eq_false', Bool.and_eq_true, Bool.or_eq_true, Nat.not_lt, Nat.not_le, beq_iff_eq, bne_iff_ne] at c4
        refine TC.seq ?_
        have hbadR : ∀ x : SMsg, x.id.length = 12 → x.build ≠ some b := by
          first
          | exact parse_none hb (hI.no g19_2)
          | exact absurd (c1.symm.trans g19_2) (by decide)
          | (obtain rfl : l = [] := List.eq_nil_of_length_eq_zero (by omega); subst g19_2; exact parse_bad hb hk hI c4)
        refine TC.region ?_
        refine TL.val rfl rfl rfl (Y.buildS rfl rfl pl58 zc58 rfl) ?_
        refine TL.as (.agg zmsg) (by rfl) ?_
        refine TL.eff0 rfl rfl (by first | exact X.storeAll rfl sz58 (by rfl) rfl rfl (allOne (by rfl)) pul (by rfl) | exact X.storeAll rfl sz58 szz rfl rfl (by simp [Value.oneCell']) pul szz | exact X.storeAgg rfl sz58 szz rfl rfl (by simp [Value.oneCell']) pul szz (writeM (by ((try simp only [List.length_set, List.length_map, List.length_append, List.length_replicate]); omega)))) ?_
        rintro _ _ rfl
        refine TL.val rfl rfl rfl (Y.assign rfl rfl) ?_
        refine TL.nil ?_
        refine TQ.next ?_
        refine TC.ret ?_
        refine TQ.then_ret ?_
        refine TQ.retE (resL rfl (Res.agg rfl ag58 (by first | exact Cels.all (cs := zmsg) inn | exact Cels.all (cs := msgC (clsP k) (mthP k) f (.slice ya xs.length yc)) inn) (by first | rfl | assumption | omega) (Res.tmp rfl Res.nil))) ((by first | exact ⟨_, _, _, _, _, xs, 0, rfl, .inl ⟨rfl, hgoodR⟩, rfl⟩ | exact ⟨0, 0, fun _ => 0, none, 0, [], 2, rfl, .inr ⟨rfl, rfl, rfl, rfl, rfl, hbadR⟩, rfl⟩)) ?_
        exact (by first | (have _h := hgoodR; exact ett) | (have _h := hbadR; exact Ent.trans (Ent.nilOwn 76 2) (Ent.trans (Ent.under _ Ent.rdss0) (Ent.trans (Ent.mkOwn (l := ([] : List At)) Pull.here Pull.here rfl rfl rfl) ett))))
      · try simp only [decide_eq_true_eq, decide_eq_false_iff_not, Bool.not_eq_true', Bool.not_eq_false', Bool.and_eq_true, Bool.or_eq_true, Nat.not_lt, Nat.not_le, beq_iff_eq, bne_iff_ne] at c4
        refine TC.skip ?_
        refine TQ.next ?_
        refine TC.seq ?_
        have hgoodR : (⟨clsP k, mthP k, idL f, xs.map pl⟩ : SMsg).build = some b := by
          first
          | exact absurd (c1.symm.trans g19_2) (by decide)
          | (obtain rfl : l = [] := List.eq_nil_of_length_eq_zero (by omega); subst g19_2; exact parse_yes hb hk hg1 hg2 hg4 hg5 hI c4)
        refine TC.region ?_
        refine TL.val rfl rfl rfl (Y.loadAgg rfl ag58 rfl (Cels.all (cs := msgC (clsP k) (mthP k) f (.slice ya xs.length yc)) inn) (by first | rfl | ((try simp only [List.length_map, List.length_set, List.length_replicate]); omega))) ?_
        refine TL.as (.agg (msgC (clsP k) (mthP k) f (.slice ya xs.length yc))) (by rfl) ?_
        refine TL.eff0 rfl rfl (X.storeAll rfl (by kernel_rfl) (msgC_size _ _ f _) rfl rfl (msg_one _ _ f _ _ _) pul rfl) ?_
        rintro _ _ rfl
        refine TL.val rfl rfl rfl (Y.assign rfl rfl) ?_
        refine TL.nil ?_
        refine TQ.next ?_
        refine TC.ret ?_
        refine TQ.retE (resL rfl (Res.agg rfl ag58 (by first | exact Cels.all (cs := zmsg) inn | exact Cels.all (cs := msgC (clsP k) (mthP k) f (.slice ya xs.length yc)) inn) (by first | rfl | assumption | omega) (Res.tmp rfl Res.nil))) ((by first | exact ⟨_, _, _, _, _, xs, 0, rfl, .inl ⟨rfl, hgoodR⟩, rfl⟩ | exact ⟨0, 0, fun _ => 0, none, 0, [], 2, rfl, .inr ⟨rfl, rfl, rfl, rfl, rfl, hbadR⟩, rfl⟩)) ?_
        exact (by first | (have _h := hgoodR; exact ett) | (have _h := hbadR; exact Ent.trans (Ent.nilOwn 76 2) (Ent.trans (Ent.under _ Ent.rdss0) (Ent.trans (Ent.mkOwn (l := ([] : List At)) Pull.here Pull.here rfl rfl rfl) ett))))
theorem Ent.dat0 {L : List SA} : Ent L (SA.dat (⟨none, 0, []⟩ : Sl At) :: L) :=
  Ent.trans (Ent.nilOwn 76 2) (Ent.trans (Ent.under _ Ent.rdss0) (Ent.mkOwn (l := ([] : List At)) Pull.here Pull.here rfl rfl rfl))
--REG rostrum/stun.Parse : _ _ ⟨pc{d}, pm{d}, pf{d}, pa{d}, pcap{d}, pl{d}, pe{d}, rfl, hP{d}, rfl⟩ => (stun.Parse_fn _ _ _ _ (by first | assumption | rfl) (by omega) _)
theorem Parse_fn (a : Option Addr) (n cap : Nat) (b : List UInt8) (hn : b.length = n) (hr : n ≤ 140737488351232) (L : List SA) :
    Fn Try.prog 17 [.slice a n cap] (SA.rds 1 (.slice a n cap) n (b.map v8) :: L)
      (fun v L' => ∃ c m f' a' cap' l' e, v = .tuple #[.agg (msgC c m f' (.slice a' (l' : List At).length cap')), vN e] ∧ PR b c m f' (l'.map pl) e ∧ L' = SA.dat (⟨a', cap', l'⟩ : Sl At) :: SA.rds 1 (.slice a n cap) n (b.map v8) :: L) := by
  have no : (∀ x : SMsg, x.id.length = 12 → x.build ≠ some b) → Fn Try.prog 17 [.slice a n cap] (SA.rds 1 (.slice a n cap) n (b.map v8) :: L) (fun v L' => v = .tuple #[.agg zmsg, vN 2] ∧ L' = SA.rds 1 (.slice a n cap) n (b.map v8) :: L) →
      Fn Try.prog 17 [.slice a n cap] (SA.rds 1 (.slice a n cap) n (b.map v8) :: L)
      (fun v L' => ∃ c m f' a' cap' l' e, v = .tuple #[.agg (msgC c m f' (.slice a' (l' : List At).length cap')), vN e] ∧ PR b c m f' (l'.map pl) e ∧ L' = SA.dat (⟨a', cap', l'⟩ : Sl At) :: SA.rds 1 (.slice a n cap) n (b.map v8) :: L) := fun h hf =>
    hf.mono fun v L' ⟨hv, hL⟩ => ⟨_, Ent.dat0, 0, 0, fun _ => 0, none, 0, [], 2, hv, .inr ⟨rfl, rfl, rfl, rfl, rfl, h⟩, by rw [hL]⟩
  by_cases hs : b.length < 20
  · exact no (fun x hx e => by have := build_len hx e; omega) (Parse_short a n cap b hn hs L)
  · obtain ⟨k0, k1, n0, n1, m0, m1, m2, m3, f, rest, hb⟩ := header (b := b) (by omega)
    by_cases hbad : 16384 ≤ k0.toNat * 256 + k1.toNat ∨ n0.toNat * 256 + n1.toNat ≠ rest.length ∨ rest.length % 4 ≠ 0 ∨ num [m0, m1, m2, m3] ≠ 554869826 ∨ 1500 < b.length
    · refine no (fun x hx e => ?_) (Parse_bad k0 k1 n0 n1 m0 m1 m2 m3 f rest a n cap b hb hn hr hbad L)
      have hbl := congrArg List.length hb
      rw [hb] at e
      obtain ⟨g, h1, h2, h3, h4, h5, h6⟩ := build_head hx e
      obtain ⟨g1, g2, g3, g4, g5, g6⟩ := good_parts g
      have hk := (kind_of x.cls.toNat x.mth.toNat (by omega) (by omega)).2.2.2.2
      have hm := enc_mod x.attrs
      rw [h5] at hm h2
      have hq : num [m0, m1, m2, m3] = 554869826 := by rw [h3]; decide
      simp at hbl
      rcases hbad with h | h | h | h | h
      · omega
      · omega
      · omega
      · exact h hq
      · omega
    · simp only [not_or, Nat.not_le, Nat.not_lt, ne_eq, Classical.not_not] at hbad
      exact Parse_ok k0 k1 n0 n1 m0 m1 m2 m3 f rest a n cap b hb hn hr hbad.1 hbad.2.1 hbad.2.2.1 hbad.2.2.2.1 hbad.2.2.2.2 L
end stun
end Go.Proofs.Ytpmplnkempcmjaa

/- awake; the statement StunBuilds, walked. -/
namespace Go.Proofs.Ytpmplnkempcmjaa
set_option linter.unusedVariables false
set_option linter.unusedSimpArgs false
open Go.RowKit
namespace stun
--FACTS
def helloB : List UInt8 := [0, 1, 0, 0, 33, 18, 164, 66, 0, 0, 0, 0, 0, 0, 0, 0, 0, 0, 0, 0]
theorem hello_build : (SM 0 1 (fun _ => 0) ⟨none, 0, []⟩).build = some helloB := by decide +kernel
end stun
end Go.Proofs.Ytpmplnkempcmjaa

/- the document's Parse, walked. -/
namespace Go.Proofs.Ytpmplnkempcmjaa
set_option linter.unusedVariables false
set_option linter.unusedSimpArgs false
open Go.RowKit
namespace stun
open wr (pad4 pad4_length pad4_mod pad4_head pad4_step pad4_done be16 be32)
open r1 (be2 be4 be2_len be4_len)
namespace FxStunRP
set_option maxRecDepth 100000
theorem ag43 : Program.aggN Try.prog 43 = some 15 := by kernel_rfl
theorem el30 : Elt Try.prog 30 5 1 1 (.int .u8 0) := ⟨Try.underlying30, by kernel_rfl, rfl, by decide, by simp [Value.cells, Value.oneCell']⟩
theorem el41 : Elt Try.prog 41 77 2 32 (.agg #[.int .u16 0, .slice none 0 0]) := ⟨Try.underlying41, by kernel_rfl, rfl, by decide, by simp [Value.cells, Value.oneCell']⟩
theorem fo43_2 : Program.fieldOff Try.prog 43 2 = some 2 := by kernel_rfl
theorem fo43_3 : Program.fieldOff Try.prog 43 3 = some 14 := by kernel_rfl
theorem pl43 : Program.places Try.prog 43 = some [(0, 1), (1, 1), (2, 12), (14, 1)] := by kernel_rfl
theorem pl77 : Program.places Try.prog 77 = some [(0, 1), (1, 1)] := by kernel_rfl
theorem sc41 : Program.isSc Try.prog 41 = true := by kernel_rfl
theorem sc5 : Program.isSc Try.prog 5 = true := by kernel_rfl
theorem sl30 : Program.slI Try.prog 30 = some 1 := by kernel_rfl
theorem sz43 : (Try.prog.info? 43).map (·.size) = some 15 := by kernel_rfl
theorem sz5 : (Try.prog.info? 5).map (·.size) = some 1 := by kernel_rfl
theorem zc43 : Program.zeroC Try.prog 43 = some #[.int .i64 0, .int .i64 0, .int .u8 0, .int .u8 0, .int .u8 0, .int .u8 0, .int .u8 0, .int .u8 0, .int .u8 0, .int .u8 0, .int .u8 0, .int .u8 0, .int .u8 0, .int .u8 0, .slice none 0 0] := by kernel_rfl
theorem zc77 : Program.zeroC Try.prog 77 = some #[.int .u16 0, .slice none 0 0] := by kernel_rfl
theorem zs77 : ((Try.prog.info? 77).bind fun i => i.zero.map fun z => (i.size, z.cells.size)) = some (2, 2) := by kernel_rfl
end FxStunRP
open FxStunRP
def at2 (b : List UInt8) (i : Nat) : Nat := (b.getD i 0).toNat * 256 + (b.getD (i + 1) 0).toNat
theorem at2_lt (b : List UInt8) (i : Nat) : at2 b i < 65536 := by
  have h1 := (b.getD i 0).toNat_lt; have h2 := (b.getD (i + 1) 0).toNat_lt
  unfold at2; omega
theorem getD_dropE {b : List UInt8} {i j : Nat} {x : UInt8} {r : List UInt8} (h : b.drop i = r) (hx : r[j]? = some x) : b.getD (i + j) 0 = x := by
  rw [List.getD_eq_getElem?_getD, ← List.getElem?_drop, h, hx]; rfl
theorem be2_at {b : List UInt8} {i n : Nat} {r : List UInt8} (hn : n < 65536) (h : b.drop i = be2 n ++ r) : at2 b i = n := by
  have h0 := getD_dropE (j := 0) h rfl
  have h1 := getD_dropE (j := 1) h rfl
  have hm : UInt8.size = 256 := rfl
  rw [Nat.add_zero] at h0
  unfold at2
  rw [h0, h1, UInt8.toNat_ofNat', UInt8.toNat_ofNat']
  omega
theorem enc_head {z : PA} {r b : List UInt8} {i : Nat} (hz : z.2.length < 65536) (h : b.drop i = encA z ++ r) :
    at2 b i = z.1.toNat ∧ at2 b (i + 2) = z.2.length ∧ (b.drop (i + 4)).take z.2.length = z.2 ∧ b.drop (i + 4 + (z.2.length + 3) / 4 * 4) = r ∧ i + 4 + (z.2.length + 3) / 4 * 4 ≤ b.length ∧ i + 4 + z.2.length ≤ b.length := by
  have hp : z.2.length + padN z.2.length = (z.2.length + 3) / 4 * 4 := by unfold padN; omega
  rw [encA_eq] at h
  simp only [List.append_assoc] at h
  have d2 : b.drop (i + 2) = be2 z.2.length ++ (z.2 ++ (List.replicate (padN z.2.length) 0 ++ r)) := by rw [← List.drop_drop, h]; rfl
  have d4 : b.drop (i + 4) = z.2 ++ (List.replicate (padN z.2.length) 0 ++ r) := by rw [show i + 4 = i + 2 + 2 by omega, ← List.drop_drop, d2]; rfl
  have hl := congrArg List.length d4
  have h2 := congrArg List.length d2
  simp [be2] at hl h2
  refine ⟨be2_at z.1.toNat_lt h, be2_at hz d2, by rw [d4]; simp, ?_, by omega, by omega⟩
  rw [← hp, ← List.drop_drop, ← List.drop_drop, d4]
  simp
/-- what has been read of the attributes -/
structure RI (b rest : List UInt8) (at' : Nat) (xs : List PA) : Prop where
  all : ∀ ys, small ys → enc ys = rest → ∃ zs, ys = xs ++ zs ∧ b.drop at' = enc zs ∧ at' ≤ b.length
  lo : 20 + 4 * xs.length ≤ at'
  hi : at' ≤ b.length + 3
theorem RI.start {b rest : List UInt8} (h : b.drop 20 = rest) (hl : 20 ≤ b.length) : RI b rest 20 [] := ⟨fun ys _ he => ⟨ys, rfl, by rw [h, he], hl⟩, by simp, by omega⟩
theorem RI.cons {b rest : List UInt8} {at' : Nat} {xs ys : List PA} (h : RI b rest at' xs) (hl : at' < b.length) (hs : small ys) (he : enc ys = rest) : ∃ z zs, ys = xs ++ z :: zs ∧ z.2.length < 65536 ∧ b.drop at' = encA z ++ enc zs := by
  obtain ⟨zs, h1, h2, h3⟩ := h.all ys hs he
  cases zs with
  | nil =>
    have := congrArg List.length h2
    simp [enc] at this
    omega
  | cons z zs => exact ⟨z, zs, h1, hs z (by simp [h1]), by rw [h2, enc_cons]⟩
theorem RI.step {b rest : List UInt8} {at' n : Nat} {xs : List PA} {t : UInt16} {v : List UInt8} (h : RI b rest at' xs) (hl : at' < b.length) (ht : t.toNat = at2 b at') (hn : n = at2 b (at' + 2)) (hv : v = (b.drop (at' + 4)).take n) (h1 : at' + 4 + n ≤ b.length) :
    RI b rest (at' + 4 + (n + 3) / 4 * 4) (xs ++ [(t, v)]) := by
  have := h.lo
  refine ⟨fun ys hs he => ?_, by simp; omega, by omega⟩
  obtain ⟨z, zs, e1, hz, e2⟩ := h.cons hl hs he
  obtain ⟨a1, a2, a3, a4, a5, -⟩ := enc_head hz e2
  rw [← hn] at a2
  subst a2
  have e : (t, v) = z := Prod.ext (UInt16.toNat_inj.1 (ht.trans a1)) (hv.trans a3)
  exact ⟨zs, by rw [e1, e]; simp, a4, a5⟩
theorem RI.no4 {b rest : List UInt8} {at' : Nat} {xs : List PA} (h : RI b rest at' xs) (hl : at' < b.length) (h4 : b.length < at' + 4) : ∀ ys, small ys → enc ys ≠ rest := fun ys hs he => by
  obtain ⟨z, zs, e1, hz, e2⟩ := h.cons hl hs he
  obtain ⟨a1, a2, a3, a4, a5, a6⟩ := enc_head hz e2
  omega
theorem RI.noV {b rest : List UInt8} {at' n : Nat} {xs : List PA} (h : RI b rest at' xs) (hl : at' < b.length) (hn : n = at2 b (at' + 2)) (h4 : b.length < at' + 4 + n) : ∀ ys, small ys → enc ys ≠ rest := fun ys hs he => by
  obtain ⟨z, zs, e1, hz, e2⟩ := h.cons hl hs he
  obtain ⟨a1, a2, a3, a4, a5, a6⟩ := enc_head hz e2
  omega
/-- the message that was read is the only one that there may be -/
theorem RI.only {k0 k1 n0 n1 m0 m1 m2 m3 : UInt8} {f : Nat → UInt8} {rest b : List UInt8} {k at' : Nat} {xs : List PA} (hb : b = [k0, k1, n0, n1, m0, m1, m2, m3] ++ (idL f ++ rest)) (hk : k = k0.toNat * 256 + k1.toNat)
    (h : RI b rest at' xs) (hl : b.length ≤ at') (x : SMsg) (hx : x.id.length = 12) (hB : x.build = some b) : x = ⟨clsR k, mthR k, idL f, xs⟩ := by
  have hB' := hB
  rw [hb] at hB'
  obtain ⟨hg', h1, h2, -, h3, he, -⟩ := build_head hx hB'
  obtain ⟨zs, e1, e2, e3⟩ := h.all _ (small_good hg') he
  obtain rfl : zs = [] := by
    cases zs with
    | nil => rfl
    | cons z zs =>
      have := congrArg List.length e2
      have hp := encA_pos z
      rw [enc_cons] at this
      simp at this
      omega
  obtain ⟨g1, g2, g3, g4, g5, g6⟩ := good_parts hg'
  obtain ⟨k1, k2, k3, k4, k5⟩ := kind_of x.cls.toNat x.mth.toNat (by omega) (by omega)
  rw [h1, ← hk] at k1 k2
  rw [List.append_nil] at e1
  rw [k1, k2, ← e1, ← h3, Int.toNat_of_nonneg g2, Int.toNat_of_nonneg g4]
theorem shl_or16 (x y : UInt8) : (shl16 x.toUInt16 8 ||| y.toUInt16).toNat = x.toNat * 256 + y.toNat := by
  have hx := x.toNat_lt; have hy := y.toNat_lt
  rw [UInt16.toNat_or, shl16, UInt16.toNat_ofNat_of_lt' (by show _ < 65536; simp; omega)]
  simp
  exact or_add _ _ (by omega)
theorem oe_no {o : Option (List UInt8)} {b : List UInt8} (h : ¬ oe o = 0) : o ≠ some b := fun e => by rw [e] at h; exact h rfl
theorem ob_no {o : Option (List UInt8)} {b : List UInt8} (h : ¬ ob o = b) : o ≠ some b := fun e => by rw [e] at h; exact h rfl
theorem ob_yes {o : Option (List UInt8)} {b : List UInt8} (h1 : oe o = 0) (h : ob o = b) : o = some b := by
  cases o with
  | none => cases h1
  | some w => exact congrArg some h
theorem refParse_len (a : Option Addr) (n cap : Nat) (b : List UInt8) (hn : b.length = n) (hs : b.length < 20 ∨ 1500 < b.length) (L : List SA) :
    Fn Try.prog 29 [.slice a n cap] (SA.rds 1 (.slice a n cap) n (b.map v8) :: L)
      (fun v L' => v = .tuple #[.agg zmsg, vN 2] ∧ L' = SA.rds 1 (.slice a n cap) n (b.map v8) :: L) := by
  refine Fn.of (N := 139) Try.func29 rfl rfl ?_
  intro Xh
  refine TC.seq ?_
  refine TC.region ?_
  refine TL.eff rfl rfl rfl (X.alloc rfl zc43) ?_
  rintro _ _ ⟨b2, rfl, rfl⟩
  refine TL.val rfl rfl rfl (Y.assign rfl rfl) ?_
  refine TL.nil ?_
  refine TQ.next ?_
  refine TC.seq ?_
  refine TC.seq ?_
  refine TC.region ?_
  refine TL.val rfl rfl rfl (Y.move rfl rfl) ?_
  refine TL.val rfl rfl rfl (Y.len rfl Try.underlying30 rfl) ?_
  refine TL.val rfl rfl rfl (Y.bin rfl rfl rfl (br_ltN (n := 20))) ?_
  refine TL.val rfl rfl rfl (Y.move rfl rfl) ?_
  refine TL.case (fun g1_3 => ?_) (fun g1_3 => ?_)
  · try simp only [decide_eq_true_eq, decide_eq_false_iff_not, Bool.not_eq_true', Bool.not_eq_false', Nat.not_lt, Nat.not_le, beq_iff_eq, bne_iff_ne] at g1_3
    refine TL.not rfl rfl rfl ?_
    refine TL.not rfl rfl rfl ?_
    refine TL.not rfl rfl rfl ?_
    refine TL.val rfl rfl rfl (Y.pick_t rfl rfl rfl) ?_
    refine TL.nil ?_
    refine TQ.next ?_
    refine TC.cond_t rfl ?_
    refine TC.seq ?_
    refine TC.region ?_
    refine TL.val rfl rfl rfl (Y.buildS rfl rfl pl43 zc43 rfl) ?_
    refine TL.as (.agg zmsg) (by rfl) ?_
    refine TL.eff0 rfl rfl (by first | exact X.storeAll rfl sz43 (by rfl) rfl rfl (allOne (by rfl)) pul (by rfl) | exact X.storeAll rfl sz43 szz rfl rfl (by simp [Value.oneCell']) pul szz | exact X.storeAgg rfl sz43 szz rfl rfl (by simp [Value.oneCell']) pul szz (writeM (by ((try simp only [List.length_set, List.length_map, List.length_append, List.length_replicate]); omega)))) ?_
    rintro _ _ rfl
    refine TL.val rfl rfl rfl (Y.assign rfl rfl) ?_
    refine TL.nil ?_
    refine TQ.next ?_
    refine TC.ret ?_
    refine TQ.then_ret ?_
    refine TQ.retE (resL rfl (Res.agg rfl ag43 (Cels.all (cs := zmsg) inn) (by first | rfl | assumption | omega) (Res.tmp rfl Res.nil))) (⟨rfl, rfl⟩) ?_
    exact ett
  · try simp only [decide_eq_true_eq, decide_eq_false_iff_not, Bool.not_eq_true', Bool.not_eq_false', Nat.not_lt, Nat.not_le, beq_iff_eq, bne_iff_ne] at g1_3
    refine TL.valG rfl rfl rfl (Y.move rfl rfl) ?_
    refine TL.valG rfl rfl rfl (Y.len rfl Try.underlying30 rfl) ?_
    refine TL.valG rfl rfl rfl (Y.bin rfl rfl rfl (br_gtN (n := 1500))) ?_
    refine TL.val rfl rfl rfl (Y.pick_f rfl rfl rfl) ?_
    refine TL.nil ?_
    refine TQ.next ?_
    refine TC.cond rfl (fun c0 => ?_) (fun c0 => ?_)
    · try simp only [decide_eq_true_eq, decide_eq_false_iff_not, Bool.not_eq_true', Bool.not_eq_false', Bool.and_eq_true, Bool.or_eq_true, Nat.not_lt, Nat.not_le, beq_iff_eq, bne_iff_ne] at c0
      refine TC.seq ?_
      refine TC.region ?_
      refine TL.val rfl rfl rfl (Y.buildS rfl rfl pl43 zc43 rfl) ?_
      refine TL.as (.agg zmsg) (by rfl) ?_
      refine TL.eff0 rfl rfl (by first | exact X.storeAll rfl sz43 (by rfl) rfl rfl (allOne (by rfl)) pul (by rfl) | exact X.storeAll rfl sz43 szz rfl rfl (by simp [Value.oneCell']) pul szz | exact X.storeAgg rfl sz43 szz rfl rfl (by simp [Value.oneCell']) pul szz (writeM (by ((try simp only [List.length_set, List.length_map, List.length_append, List.length_replicate]); omega)))) ?_
      rintro _ _ rfl
      refine TL.val rfl rfl rfl (Y.assign rfl rfl) ?_
      refine TL.nil ?_
      refine TQ.next ?_
      refine TC.ret ?_
      refine TQ.then_ret ?_
      refine TQ.retE (resL rfl (Res.agg rfl ag43 (Cels.all (cs := zmsg) inn) (by first | rfl | assumption | omega) (Res.tmp rfl Res.nil))) (⟨rfl, rfl⟩) ?_
      exact ett
    · try simp only [decide_eq_true_eq, decide_eq_false_iff_not, Bool.not_eq_true', Bool.not_eq_false', Bool.and_eq_true, Bool.or_eq_true, Nat.not_lt, Nat.not_le, beq_iff_eq, bne_iff_ne] at c0
      exfalso; omega --stop
theorem getD_pick {b p q : List UInt8} (h : b = p ++ q) {i : Nat} {x : UInt8} (hx : p[i]? = some x) : b.getD i 0 = x := by
  have hi : i < p.length := (List.getElem?_eq_some_iff.1 hx).1
  rw [h, List.getD_eq_getElem?_getD, List.getElem?_append_left hi, hx]; rfl
set_option maxHeartbeats 4000000 in
theorem refParse_ok (k0 k1 n0 n1 m0 m1 m2 m3 : UInt8) (f : Nat → UInt8) (rest : List UInt8) (a : Option Addr) (n cap : Nat) (b : List UInt8) (hb : b = [k0, k1, n0, n1, m0, m1, m2, m3] ++ (idL f ++ rest)) (hn : b.length = n) (hg5 : b.length ≤ 1500) (L : List SA) :
    Fn Try.prog 29 [.slice a n cap] (SA.rds 1 (.slice a n cap) n (b.map v8) :: L)
      (fun v L' => ∃ c m f' a' cap' l' e, v = .tuple #[.agg (msgC c m f' (.slice a' (l' : List At).length cap')), vN e] ∧ PR b c m f' (l'.map pl) e ∧ L' = SA.dat (⟨a', cap', l'⟩ : Sl At) :: SA.rds 1 (.slice a n cap) n (b.map v8) :: L) := by
  have hbl : b.length = 20 + rest.length := by rw [hb]; simp; omega
  have hk0 := k0.toNat_lt
  have hk1 := k1.toNat_lt
  have b0 : b.getD 0 0 = k0 := getD_pick hb rfl
  have b1 : b.getD 1 0 = k1 := getD_pick hb rfl
  have hid : (b.drop 8).take (20 - 8) = idL f := by rw [hb]; rfl
  have hrest : b.drop 20 = rest := by rw [hb]; rfl
  refine Fn.of (N := 139) Try.func29 rfl rfl ?_
  intro Xh
  refine TC.know (reads_cap Reads.rds (a := a) (n := n) (cap := cap) (cs := b.map v8) inn) ?_
  rintro ⟨hc1, hc2, -, -⟩
  simp only [maxLen] at hc2
  refine TC.know (reads_some Reads.rds (a := a) (n := n) (cap := cap) (cs := b.map v8) inn (by omega) (by decide)) ?_
  rintro ⟨g, off, rfl⟩
  refine TC.seq ?_
  refine TC.region ?_
  refine TL.eff rfl rfl rfl (X.alloc rfl zc43) ?_
  rintro _ _ ⟨b2, rfl, rfl⟩
  refine TL.val rfl rfl rfl (Y.assign rfl rfl) ?_
  refine TL.nil ?_
  refine TQ.next ?_
  refine TC.seq ?_
  refine TC.seq ?_
  refine TC.region ?_
  refine TL.val rfl rfl rfl (Y.move rfl rfl) ?_
  refine TL.val rfl rfl rfl (Y.len rfl Try.underlying30 rfl) ?_
  refine TL.val rfl rfl rfl (Y.bin rfl rfl rfl (br_ltN (n := 20))) ?_
  refine TL.is false (by first | rfl | (simp only [decide_eq_true_eq, decide_eq_false_iff_not, Bool.not_eq_true', Bool.not_eq_false', Bool.not_eq_eq_eq_not, Bool.not_true, Bool.not_false, Nat.not_lt, Nat.not_le]; omega) | (simp [*]; done) | (simp; omega)) ?_
  refine TL.val rfl rfl rfl (Y.move rfl rfl) ?_
  refine TL.valG rfl rfl rfl (Y.move rfl rfl) ?_
  refine TL.valG rfl rfl rfl (Y.len rfl Try.underlying30 rfl) ?_
  refine TL.valG rfl rfl rfl (Y.bin rfl rfl rfl (br_gtN (n := 1500))) ?_
  refine TL.is false (by first | rfl | (simp only [decide_eq_true_eq, decide_eq_false_iff_not, Bool.not_eq_true', Bool.not_eq_false', Bool.not_eq_eq_eq_not, Bool.not_true, Bool.not_false, Nat.not_lt, Nat.not_le]; omega) | (simp [*]; done) | (simp; omega)) ?_
  refine TL.val rfl rfl rfl (Y.pick_f rfl rfl rfl) ?_
  refine TL.nil ?_
  refine TQ.next ?_
  refine TC.cond_f rfl ?_
  refine TC.skip ?_
  refine TQ.next ?_
  refine TC.seq ?_
  refine TC.draws 11 _ (by kernel_rfl) (by kernel_rfl) (fun _ h => h) ?_
  refine TA.take 0 rfl rfl rfl rfl (by kernel_rfl) (by kernel_rfl) (by kernel_rfl) rfl (by kernel_rfl) (by kernel_rfl) (fun _ _ _ h => h) (Y.move rfl rfl) ?_
  refine TA.take 1 rfl rfl rfl rfl (by kernel_rfl) (by kernel_rfl) (by kernel_rfl) rfl (by kernel_rfl) (by kernel_rfl) (fun _ _ _ h => h) (by first | exact Y.indexSlB (j := 0) rfl sl30 rfl rfl (by omega) nqq | exact Y.indexSl (j := 0) rfl sl30 rfl rfl (by omega) nqq) ?_
  refine TA.take 2 rfl rfl rfl rfl (by kernel_rfl) (by kernel_rfl) (by kernel_rfl) rfl (by kernel_rfl) (by kernel_rfl) (fun _ _ _ h => h) (Y.load rfl sc5 rfl cel8) ?_
  refine TA.as (v8 k0) (by rw [b0]) ?_
  refine TA.take 3 rfl rfl rfl rfl (by kernel_rfl) (by kernel_rfl) (by kernel_rfl) rfl (by kernel_rfl) (by kernel_rfl) (fun _ _ _ h => h) (Y.conv rfl Try.underlying5 Try.underlying3 rfl (cv_8_N)) ?_
  refine TA.take 4 rfl rfl rfl rfl (by kernel_rfl) (by kernel_rfl) (by kernel_rfl) rfl (by kernel_rfl) (by kernel_rfl) (fun _ _ _ h => h) (Y.bin rfl rfl rfl (br_shlN (n := 8) (c := 256) rfl (by omega) (by omega))) ?_
  refine TA.take 5 rfl rfl rfl rfl (by kernel_rfl) (by kernel_rfl) (by kernel_rfl) rfl (by kernel_rfl) (by kernel_rfl) (fun _ _ _ h => h) (Y.move rfl rfl) ?_
  refine TA.take 6 rfl rfl rfl rfl (by kernel_rfl) (by kernel_rfl) (by kernel_rfl) rfl (by kernel_rfl) (by kernel_rfl) (fun _ _ _ h => h) (by first | exact Y.indexSlB (j := 1) rfl sl30 rfl rfl (by omega) nqq | exact Y.indexSl (j := 1) rfl sl30 rfl rfl (by omega) nqq) ?_
  refine TA.take 7 rfl rfl rfl rfl (by kernel_rfl) (by kernel_rfl) (by kernel_rfl) rfl (by kernel_rfl) (by kernel_rfl) (fun _ _ _ h => h) (Y.load rfl sc5 rfl cel8) ?_
  refine TA.as (v8 k1) (by rw [b1]) ?_
  refine TA.take 8 rfl rfl rfl rfl (by kernel_rfl) (by kernel_rfl) (by kernel_rfl) rfl (by kernel_rfl) (by kernel_rfl) (fun _ _ _ h => h) (Y.conv rfl Try.underlying5 Try.underlying3 rfl (cv_8_N)) ?_
  refine TA.take 9 rfl rfl rfl rfl (by kernel_rfl) (by kernel_rfl) (by kernel_rfl) rfl (by kernel_rfl) (by kernel_rfl) (fun _ _ _ h => h) (Y.bin rfl rfl rfl (br_orN (by omega) (by omega))) ?_
  refine TA.as (vN (k0.toNat * 256 + k1.toNat)) (by rw [or_add _ _ hk1]) ?_
  refine TA.take 10 rfl rfl rfl rfl (by kernel_rfl) (by kernel_rfl) (by kernel_rfl) rfl (by kernel_rfl) (by kernel_rfl) (fun _ _ _ h => h) (Y.assign rfl rfl) ?_
  refine TA.done (by kernel_rfl) ?_
  refine TQ.next ?_
  refine TC.seq ?_
  obtain ⟨k, hk⟩ : ∃ k, k = k0.toNat * 256 + k1.toNat := ⟨_, rfl⟩
  rw [← hk]
  have hkk : k < 65536 := by omega
  have q1 : k / 16 &&& 1 ≤ 1 := Nat.and_le_right
  have q2 : k / 256 &&& 1 ≤ 1 := Nat.and_le_right
  have q3 : k &&& 15 ≤ 15 := Nat.and_le_right
  have q4 : k / 32 &&& 7 ≤ 7 := Nat.and_le_right
  have q5 : k / 512 &&& 31 ≤ 31 := Nat.and_le_right
  have o1 : k &&& 15 ||| (k / 32 &&& 7) * 16 < 16384 := Nat.or_lt_two_pow (n := 14) (by omega) (by omega)
  refine TC.region ?_
  refine TL.val rfl rfl rfl (Y.move rfl rfl) ?_
  refine TL.val rfl rfl rfl (Y.bin rfl rfl rfl (br_shrN (n := 4) (c := 16) rfl (by omega))) ?_
  refine TL.val rfl rfl rfl (Y.bin rfl rfl rfl (br_andN (n := 1) (by omega) (by omega))) ?_
  refine TL.val rfl rfl rfl (Y.move rfl rfl) ?_
  refine TL.val rfl rfl rfl (Y.bin rfl rfl rfl (br_shrN (n := 8) (c := 256) rfl (by omega))) ?_
  refine TL.val rfl rfl rfl (Y.bin rfl rfl rfl (br_andN (n := 1) (by omega) (by omega))) ?_
  refine TL.val rfl rfl rfl (Y.bin rfl rfl rfl (br_shlN (n := 1) (c := 2) rfl (by omega) (by omega))) ?_
  refine TL.val rfl rfl rfl (Y.bin rfl rfl rfl (br_orN (by omega) (by omega))) ?_
  refine TL.val rfl rfl rfl (Y.move rfl rfl) ?_
  refine TL.val rfl rfl rfl (Y.bin rfl rfl rfl (br_andN (n := 15) (by omega) (by omega))) ?_
  refine TL.val rfl rfl rfl (Y.move rfl rfl) ?_
  refine TL.val rfl rfl rfl (Y.bin rfl rfl rfl (br_shrN (n := 5) (c := 32) rfl (by omega))) ?_
  refine TL.val rfl rfl rfl (Y.bin rfl rfl rfl (br_andN (n := 7) (by omega) (by omega))) ?_
  refine TL.val rfl rfl rfl (Y.bin rfl rfl rfl (br_shlN (n := 4) (c := 16) rfl (by omega) (by omega))) ?_
  refine TL.val rfl rfl rfl (Y.bin rfl rfl rfl (br_orN (by omega) (by omega))) ?_
  refine TL.val rfl rfl rfl (Y.move rfl rfl) ?_
  refine TL.val rfl rfl rfl (Y.bin rfl rfl rfl (br_shrN (n := 9) (c := 512) rfl (by omega))) ?_
  refine TL.val rfl rfl rfl (Y.bin rfl rfl rfl (br_andN (n := 31) (by omega) (by omega))) ?_
  refine TL.val rfl rfl rfl (Y.bin rfl rfl rfl (br_shlN (n := 7) (c := 128) rfl (by omega) (by omega))) ?_
  refine TL.val rfl rfl rfl (Y.bin rfl rfl rfl (br_orN (by omega) (by omega))) ?_
  refine TL.val rfl rfl rfl (Y.buildS (cells := msgC (clsR k) (mthR k) (fun _ => 0) (.slice none 0 0)) rfl rfl pl43 zc43 (by kernel_rfl)) ?_
  refine TL.eff rfl rfl rfl (X.alloc rfl zc43) ?_
  rintro _ _ ⟨b5, rfl, rfl⟩
  refine TL.eff0 rfl rfl (by first | exact X.storeAll rfl sz43 (by rfl) rfl rfl (allOne (by rfl)) pul (by rfl) | exact X.storeAll rfl sz43 szz rfl rfl (by simp [Value.oneCell']) pul szz | exact X.storeAgg rfl sz43 szz rfl rfl (by simp [Value.oneCell']) pul szz (writeM (by ((try simp only [List.length_set, List.length_map, List.length_append, List.length_replicate]); omega)))) ?_
  rintro _ _ rfl
  refine TL.nil ?_
  refine TQ.next ?_
  refine TC.seq ?_
  refine TC.draws 4 [SA.rds 1 (.slice (some ⟨g, off, none⟩) n cap) n (b.map v8)] (by kernel_rfl) (by kernel_rfl) (by repeat first | exact holds_nil | refine holds_cons inn ?_) ?_
  refine TA.takeP 0 rfl rfl rfl rfl (by kernel_rfl) (by kernel_rfl) (by kernel_rfl) rfl (fun _ _ _ h => h) (by first | exact Y.fieldAddrJ rfl fo43_2 rfl nqq | exact Y.fieldAddr rfl fo43_2 rfl nqq) ?_
  refine TA.take 1 rfl rfl rfl rfl (by kernel_rfl) (by kernel_rfl) (by kernel_rfl) rfl (by kernel_rfl) (by kernel_rfl) (fun _ _ _ h => h) (Y.sliceArr rfl Try.underlying40 sz5 rfl) ?_
  refine TA.takeP 2 rfl rfl rfl rfl (by kernel_rfl) (by kernel_rfl) (by kernel_rfl) rfl (fun _ _ _ h => h) (Y.move rfl rfl) ?_
  refine TA.take 3 rfl rfl rfl rfl (by kernel_rfl) (by kernel_rfl) (by kernel_rfl) rfl (by kernel_rfl) (by kernel_rfl) (fun _ _ _ h => h) (Y.sliceLH (k := 8) (h := 20) rfl Try.underlying30 sz5 rfl rfl rfl (by omega) (by omega)) ?_
  refine TA.one 4 (by kernel_rfl) rfl rfl rfl rfl (X.copyBlk (cs := msgC (clsR k) (mthR k) (fun _ => 0) (.slice none 0 0)) (cs' := msgC (clsR k) (mthR k) f (.slice none 0 0)) (news := ((b.drop 8).take (20 - 8)).map v8) (m := 20 - 8) (sz := 1) rfl Try.underlying30 (by kernel_rfl) rfl rfl (Src.cut8 Reads.rds Try.underlying30 inn (by omega) (by omega)) pul (by omega) (by simp [msgC]) (by rw [hid]; kernel_rfl)) ?_
  rintro _ _ ⟨rfl, rfl⟩
  refine ⟨(Or.inl (by kernel_rfl)), ?_⟩
  refine TA.done (by kernel_rfl) ?_
  refine TQ.next ?_
  refine TC.seq ?_
  refine TC.seq ?_
  refine TC.region ?_
  refine TL.val rfl rfl rfl (Y.assign rfl rfl) ?_
  refine TL.nil ?_
  refine TQ.next ?_
  refine TC.block ?_
  refine TC.to (Ent.nilOwn 77 2) ?_
  refine TC.to (Ent.rdss0) ?_
  refine TC.loopF (ι := Nat × Option Addr × Nat × List At) [3] (fun i => RI b rest i.1 (i.2.2.2.map pl)) (fun i => [(6, some (vN i.1))]) (fun i => [SA.blk b5 (msgC (clsR k) (mthR k) f (.slice i.2.1 i.2.2.2.length i.2.2.1)) 43, SA.owns 77 2 (.slice i.2.1 i.2.2.2.length i.2.2.1) i.2.2.2.length (Dat.cs i.2.2.2), SA.rdss (i.2.2.2.flatMap Dat.g)]) (fun i => n + 3 - i.1) ((20, none, 0, [])) (RI.start hrest (by omega)) ⟨rfl, trivial⟩ (Pulls.cons pul (Pulls.cons pul (Pulls.cons pul Pulls.nil))) ?_
  rintro ⟨p, ya, yc, xs⟩ hI F' L' rfl hL'
  simp only [List.cons_append, List.nil_append] at hL'
  subst hL'
  simp only at hI ⊢
  have hlo := hI.lo
  have hhi := hI.hi
  rw [List.length_map] at hlo
  refine TC.seq ?_
  refine TC.seq ?_
  refine TC.region ?_
  refine TL.val rfl rfl rfl (Y.move rfl rfl) ?_
  refine TL.val rfl rfl rfl (Y.move rfl rfl) ?_
  refine TL.val rfl rfl rfl (Y.len rfl Try.underlying30 rfl) ?_
  refine TL.val rfl rfl rfl (Y.bin rfl rfl rfl (br_ltN)) ?_
  refine TL.nil ?_
  refine TQ.next ?_
  refine TC.cond rfl (fun c1 => ?_) (fun c1 => ?_)
  · try simp only [decide_eq_true_eq, decide_eq_false_iff_not, Bool.not_eq_true', Bool.not_eq_false', Bool.and_eq_true, Bool.or_eq_true, Nat.not_lt, Nat.not_le, beq_iff_eq, bne_iff_ne] at c1
    refine TC.skip ?_
    refine TQ.next ?_
    refine TC.block ?_
    refine TC.seq ?_
    refine TC.seq ?_
    refine TC.region ?_
    refine TL.val rfl rfl rfl (Y.move rfl rfl) ?_
    refine TL.val rfl rfl rfl (Y.bin rfl rfl rfl (br_addN (n := 4) (by omega))) ?_
    refine TL.val rfl rfl rfl (Y.move rfl rfl) ?_
    refine TL.val rfl rfl rfl (Y.len rfl Try.underlying30 rfl) ?_
    refine TL.val rfl rfl rfl (Y.bin rfl rfl rfl (br_gtN)) ?_
    refine TL.nil ?_
    refine TQ.next ?_
    refine TC.cond rfl (fun c2 => ?_) (fun c2 => ?_)
    · try simp only [decide_eq_true_eq, decide_eq_false_iff_not, Bool.not_eq_true', Bool.not_eq_false', Bool.and_eq_true, Bool.or_eq_true, Nat.not_lt, Nat.not_le, beq_iff_eq, bne_iff_ne] at c2
      have hbadR := parse_none hb (hI.no4 (by omega) (by omega))
      refine TC.seq ?_
      refine TC.region ?_
      refine TL.val rfl rfl rfl (Y.buildS rfl rfl pl43 zc43 rfl) ?_
      refine TL.as (.agg zmsg) (by rfl) ?_
      refine TL.eff0 rfl rfl (by first | exact X.storeAll rfl sz43 (by rfl) rfl rfl (allOne (by rfl)) pul (by rfl) | exact X.storeAll rfl sz43 szz rfl rfl (by simp [Value.oneCell']) pul szz | exact X.storeAgg rfl sz43 szz rfl rfl (by simp [Value.oneCell']) pul szz (writeM (by ((try simp only [List.length_set, List.length_map, List.length_append, List.length_replicate]); omega)))) ?_
      rintro _ _ rfl
      refine TL.val rfl rfl rfl (Y.assign rfl rfl) ?_
      refine TL.nil ?_
      refine TQ.next ?_
      refine TC.ret ?_
      refine TQ.then_ret ?_
      refine TQ.block_ret ?_
      refine TQ.then_ret ?_
      refine TQ.block_ret ?_
      refine TQ.then_ret ?_
      refine TQ.retE (resL rfl (Res.agg rfl ag43 (by first | exact Cels.all (cs := zmsg) inn | exact Cels.all (cs := msgC (clsR k) (mthR k) f (.slice ya xs.length yc)) inn) (by first | rfl | assumption | omega) (Res.tmp rfl Res.nil))) ((by first | exact ⟨_, _, _, _, _, xs, 0, rfl, .inl ⟨rfl, hgoodR⟩, rfl⟩ | exact ⟨0, 0, fun _ => 0, none, 0, [], 2, rfl, .inr ⟨rfl, rfl, rfl, rfl, rfl, hbadR⟩, rfl⟩)) ?_
      exact (by first | (have _h := hgoodR; exact ett) | (have _h := hbadR; exact Ent.trans Ent.dat0 ett))
    · try simp only [decide_eq_true_eq, decide_eq_false_iff_not, Bool.not_eq_true', Bool.not_eq_false', Bool.and_eq_true, Bool.or_eq_true, Nat.not_lt, Nat.not_le, beq_iff_eq, bne_iff_ne] at c2
      refine TC.skip ?_
      refine TQ.next ?_
      refine TC.seq ?_
      have hby := (b.getD (p + 2) 0).toNat_lt
      have hby3 := (b.getD (p + 3) 0).toNat_lt
      refine TC.draws 15 _ (by kernel_rfl) (by kernel_rfl) (fun _ h => h) ?_
      refine TA.take 0 rfl rfl rfl rfl (by kernel_rfl) (by kernel_rfl) (by kernel_rfl) rfl (by kernel_rfl) (by kernel_rfl) (fun _ _ _ h => h) (Y.move rfl rfl) ?_
      refine TA.take 1 rfl rfl rfl rfl (by kernel_rfl) (by kernel_rfl) (by kernel_rfl) rfl (by kernel_rfl) (by kernel_rfl) (fun _ _ _ h => h) (Y.move rfl rfl) ?_
      refine TA.take 2 rfl rfl rfl rfl (by kernel_rfl) (by kernel_rfl) (by kernel_rfl) rfl (by kernel_rfl) (by kernel_rfl) (fun _ _ _ h => h) (Y.bin rfl rfl rfl (br_addN (n := 2) (by omega))) ?_
      refine TA.take 3 rfl rfl rfl rfl (by kernel_rfl) (by kernel_rfl) (by kernel_rfl) rfl (by kernel_rfl) (by kernel_rfl) (fun _ _ _ h => h) (by first | exact Y.indexSlB rfl sl30 rfl rfl (by omega) nqq | exact Y.indexSl rfl sl30 rfl rfl (by omega) nqq) ?_
      refine TA.take 4 rfl rfl rfl rfl (by kernel_rfl) (by kernel_rfl) (by kernel_rfl) rfl (by kernel_rfl) (by kernel_rfl) (fun _ _ _ h => h) (Y.load rfl sc5 rfl cel8) ?_
      refine TA.take 5 rfl rfl rfl rfl (by kernel_rfl) (by kernel_rfl) (by kernel_rfl) rfl (by kernel_rfl) (by kernel_rfl) (fun _ _ _ h => h) (Y.conv rfl Try.underlying5 Try.underlying3 rfl (cv_8_N)) ?_
      refine TA.take 6 rfl rfl rfl rfl (by kernel_rfl) (by kernel_rfl) (by kernel_rfl) rfl (by kernel_rfl) (by kernel_rfl) (fun _ _ _ h => h) (Y.bin rfl rfl rfl (br_shlN (n := 8) (c := 256) rfl (by omega) (by omega))) ?_
      refine TA.take 7 rfl rfl rfl rfl (by kernel_rfl) (by kernel_rfl) (by kernel_rfl) rfl (by kernel_rfl) (by kernel_rfl) (fun _ _ _ h => h) (Y.move rfl rfl) ?_
      refine TA.take 8 rfl rfl rfl rfl (by kernel_rfl) (by kernel_rfl) (by kernel_rfl) rfl (by kernel_rfl) (by kernel_rfl) (fun _ _ _ h => h) (Y.move rfl rfl) ?_
      refine TA.take 9 rfl rfl rfl rfl (by kernel_rfl) (by kernel_rfl) (by kernel_rfl) rfl (by kernel_rfl) (by kernel_rfl) (fun _ _ _ h => h) (Y.bin rfl rfl rfl (br_addN (n := 3) (by omega))) ?_
      refine TA.take 10 rfl rfl rfl rfl (by kernel_rfl) (by kernel_rfl) (by kernel_rfl) rfl (by kernel_rfl) (by kernel_rfl) (fun _ _ _ h => h) (by first | exact Y.indexSlB rfl sl30 rfl rfl (by omega) nqq | exact Y.indexSl rfl sl30 rfl rfl (by omega) nqq) ?_
      refine TA.take 11 rfl rfl rfl rfl (by kernel_rfl) (by kernel_rfl) (by kernel_rfl) rfl (by kernel_rfl) (by kernel_rfl) (fun _ _ _ h => h) (Y.load rfl sc5 rfl cel8) ?_
      refine TA.take 12 rfl rfl rfl rfl (by kernel_rfl) (by kernel_rfl) (by kernel_rfl) rfl (by kernel_rfl) (by kernel_rfl) (fun _ _ _ h => h) (Y.conv rfl Try.underlying5 Try.underlying3 rfl (cv_8_N)) ?_
      refine TA.take 13 rfl rfl rfl rfl (by kernel_rfl) (by kernel_rfl) (by kernel_rfl) rfl (by kernel_rfl) (by kernel_rfl) (fun _ _ _ h => h) (Y.bin rfl rfl rfl (br_orN (by omega) (by omega))) ?_
      refine TA.as (vN (at2 b (p + 2))) (by rw [or_add _ _ (UInt8.toNat_lt _)]; rfl) ?_
      refine TA.take 14 rfl rfl rfl rfl (by kernel_rfl) (by kernel_rfl) (by kernel_rfl) rfl (by kernel_rfl) (by kernel_rfl) (fun _ _ _ h => h) (Y.assign rfl rfl) ?_
      refine TA.done (by kernel_rfl) ?_
      refine TQ.next ?_
      refine TC.seq ?_
      refine TC.seq ?_
      obtain ⟨m, hm⟩ : ∃ m, m = at2 b (p + 2) := ⟨_, rfl⟩
      have hml := at2_lt b (p + 2)
      rw [← hm]
      rw [← hm] at hml
      refine TC.region ?_
      refine TL.val rfl rfl rfl (Y.move rfl rfl) ?_
      refine TL.val rfl rfl rfl (Y.bin rfl rfl rfl (br_addN (n := 4) (by omega))) ?_
      refine TL.val rfl rfl rfl (Y.move rfl rfl) ?_
      refine TL.val rfl rfl rfl (Y.bin rfl rfl rfl (br_addN (by omega))) ?_
      refine TL.val rfl rfl rfl (Y.move rfl rfl) ?_
      refine TL.val rfl rfl rfl (Y.len rfl Try.underlying30 rfl) ?_
      refine TL.val rfl rfl rfl (Y.bin rfl rfl rfl (br_gtN)) ?_
      refine TL.nil ?_
      refine TQ.next ?_
      refine TC.cond rfl (fun c3 => ?_) (fun c3 => ?_)
      · try simp only [decide_eq_true_eq, decide_eq_false_iff_not, Bool.not_eq_true', Bool.not_eq_false', Bool.and_eq_true, Bool.or_eq_true, Nat.not_lt, Nat.not_le, beq_iff_eq, bne_iff_ne] at c3
        have hbadR := parse_none hb (hI.noV (by omega) hm (by omega))
        refine TC.seq ?_
        refine TC.region ?_
        refine TL.val rfl rfl rfl (Y.buildS rfl rfl pl43 zc43 rfl) ?_
        refine TL.as (.agg zmsg) (by rfl) ?_
        refine TL.eff0 rfl rfl (by first | exact X.storeAll rfl sz43 (by rfl) rfl rfl (allOne (by rfl)) pul (by rfl) | exact X.storeAll rfl sz43 szz rfl rfl (by simp [Value.oneCell']) pul szz | exact X.storeAgg rfl sz43 szz rfl rfl (by simp [Value.oneCell']) pul szz (writeM (by ((try simp only [List.length_set, List.length_map, List.length_append, List.length_replicate]); omega)))) ?_
        rintro _ _ rfl
        refine TL.val rfl rfl rfl (Y.assign rfl rfl) ?_
        refine TL.nil ?_
        refine TQ.next ?_
        refine TC.ret ?_
        refine TQ.then_ret ?_
        refine TQ.block_ret ?_
        refine TQ.then_ret ?_
        refine TQ.block_ret ?_
        refine TQ.then_ret ?_
        refine TQ.retE (resL rfl (Res.agg rfl ag43 (by first | exact Cels.all (cs := zmsg) inn | exact Cels.all (cs := msgC (clsR k) (mthR k) f (.slice ya xs.length yc)) inn) (by first | rfl | assumption | omega) (Res.tmp rfl Res.nil))) ((by first | exact ⟨_, _, _, _, _, xs, 0, rfl, .inl ⟨rfl, hgoodR⟩, rfl⟩ | exact ⟨0, 0, fun _ => 0, none, 0, [], 2, rfl, .inr ⟨rfl, rfl, rfl, rfl, rfl, hbadR⟩, rfl⟩)) ?_
        exact (by first | (have _h := hgoodR; exact ett) | (have _h := hbadR; exact Ent.trans Ent.dat0 ett))
      · try simp only [decide_eq_true_eq, decide_eq_false_iff_not, Bool.not_eq_true', Bool.not_eq_false', Bool.and_eq_true, Bool.or_eq_true, Nat.not_lt, Nat.not_le, beq_iff_eq, bne_iff_ne] at c3
        refine TC.skip ?_
        refine TQ.next ?_
        refine TC.seq ?_
        refine TC.draws 29 [SA.blk b5 (msgC (clsR k) (mthR k) f (.slice ya xs.length yc)) 43, SA.rds 1 (.slice (some ⟨g, off, none⟩) n cap) n (b.map v8)] (by kernel_rfl) (by kernel_rfl) (by repeat first | exact holds_nil | refine holds_cons inn ?_) ?_
        refine TA.take 0 rfl rfl rfl rfl (by kernel_rfl) (by kernel_rfl) (by kernel_rfl) rfl (by kernel_rfl) (by kernel_rfl) (fun _ _ _ h => h) (by first | exact Y.fieldAddrJ rfl fo43_3 rfl nqq | exact Y.fieldAddr rfl fo43_3 rfl nqq) ?_
        refine TA.take 1 rfl rfl rfl rfl (by kernel_rfl) (by kernel_rfl) (by kernel_rfl) rfl (by kernel_rfl) (by kernel_rfl) (fun _ _ _ h => h) (Y.load rfl sc41 rfl celD) ?_
        refine TA.take 2 rfl rfl rfl rfl (by kernel_rfl) (by kernel_rfl) (by kernel_rfl) rfl (by kernel_rfl) (by kernel_rfl) (fun _ _ _ h => h) (Y.move rfl rfl) ?_
        refine TA.take 3 rfl rfl rfl rfl (by kernel_rfl) (by kernel_rfl) (by kernel_rfl) rfl (by kernel_rfl) (by kernel_rfl) (fun _ _ _ h => h) (Y.move rfl rfl) ?_
        refine TA.take 4 rfl rfl rfl rfl (by kernel_rfl) (by kernel_rfl) (by kernel_rfl) rfl (by kernel_rfl) (by kernel_rfl) (fun _ _ _ h => h) (by first | exact Y.indexSlB rfl sl30 rfl rfl (by omega) nqq | exact Y.indexSl rfl sl30 rfl rfl (by omega) nqq) ?_
        refine TA.take 5 rfl rfl rfl rfl (by kernel_rfl) (by kernel_rfl) (by kernel_rfl) rfl (by kernel_rfl) (by kernel_rfl) (fun _ _ _ h => h) (Y.load rfl sc5 rfl cel8) ?_
        refine TA.take 6 rfl rfl rfl rfl (by kernel_rfl) (by kernel_rfl) (by kernel_rfl) rfl (by kernel_rfl) (by kernel_rfl) (fun _ _ _ h => h) (Y.conv rfl Try.underlying5 Try.underlying22 rfl (cv_8_16)) ?_
        refine TA.take 7 rfl rfl rfl rfl (by kernel_rfl) (by kernel_rfl) (by kernel_rfl) rfl (by kernel_rfl) (by kernel_rfl) (fun _ _ _ h => h) (Y.bin rfl rfl rfl (br_shl16 (n := 8))) ?_
        refine TA.take 8 rfl rfl rfl rfl (by kernel_rfl) (by kernel_rfl) (by kernel_rfl) rfl (by kernel_rfl) (by kernel_rfl) (fun _ _ _ h => h) (Y.move rfl rfl) ?_
        refine TA.take 9 rfl rfl rfl rfl (by kernel_rfl) (by kernel_rfl) (by kernel_rfl) rfl (by kernel_rfl) (by kernel_rfl) (fun _ _ _ h => h) (Y.move rfl rfl) ?_
        refine TA.take 10 rfl rfl rfl rfl (by kernel_rfl) (by kernel_rfl) (by kernel_rfl) rfl (by kernel_rfl) (by kernel_rfl) (fun _ _ _ h => h) (Y.bin rfl rfl rfl (br_addN (n := 1) (by omega))) ?_
        refine TA.take 11 rfl rfl rfl rfl (by kernel_rfl) (by kernel_rfl) (by kernel_rfl) rfl (by kernel_rfl) (by kernel_rfl) (fun _ _ _ h => h) (by first | exact Y.indexSlB rfl sl30 rfl rfl (by omega) nqq | exact Y.indexSl rfl sl30 rfl rfl (by omega) nqq) ?_
        refine TA.take 12 rfl rfl rfl rfl (by kernel_rfl) (by kernel_rfl) (by kernel_rfl) rfl (by kernel_rfl) (by kernel_rfl) (fun _ _ _ h => h) (Y.load rfl sc5 rfl cel8) ?_
        refine TA.take 13 rfl rfl rfl rfl (by kernel_rfl) (by kernel_rfl) (by kernel_rfl) rfl (by kernel_rfl) (by kernel_rfl) (fun _ _ _ h => h) (Y.conv rfl Try.underlying5 Try.underlying22 rfl (cv_8_16)) ?_
        refine TA.take 14 rfl rfl rfl rfl (by kernel_rfl) (by kernel_rfl) (by kernel_rfl) rfl (by kernel_rfl) (by kernel_rfl) (fun _ _ _ h => h) (Y.bin rfl rfl rfl (br_or16)) ?_
        refine TA.take 16 rfl rfl rfl rfl (by kernel_rfl) (by kernel_rfl) (by kernel_rfl) rfl (by kernel_rfl) (by kernel_rfl) (fun _ _ _ h => h) (Y.move rfl rfl) ?_
        refine TA.take 17 rfl rfl rfl rfl (by kernel_rfl) (by kernel_rfl) (by kernel_rfl) rfl (by kernel_rfl) (by kernel_rfl) (fun _ _ _ h => h) (Y.move rfl rfl) ?_
        refine TA.take 18 rfl rfl rfl rfl (by kernel_rfl) (by kernel_rfl) (by kernel_rfl) rfl (by kernel_rfl) (by kernel_rfl) (fun _ _ _ h => h) (Y.bin rfl rfl rfl (br_addN (n := 4) (by omega))) ?_
        refine TA.take 19 rfl rfl rfl rfl (by kernel_rfl) (by kernel_rfl) (by kernel_rfl) rfl (by kernel_rfl) (by kernel_rfl) (fun _ _ _ h => h) (Y.move rfl rfl) ?_
        refine TA.take 20 rfl rfl rfl rfl (by kernel_rfl) (by kernel_rfl) (by kernel_rfl) rfl (by kernel_rfl) (by kernel_rfl) (fun _ _ _ h => h) (Y.bin rfl rfl rfl (br_addN (n := 4) (by omega))) ?_
        refine TA.take 21 rfl rfl rfl rfl (by kernel_rfl) (by kernel_rfl) (by kernel_rfl) rfl (by kernel_rfl) (by kernel_rfl) (fun _ _ _ h => h) (Y.move rfl rfl) ?_
        refine TA.take 22 rfl rfl rfl rfl (by kernel_rfl) (by kernel_rfl) (by kernel_rfl) rfl (by kernel_rfl) (by kernel_rfl) (fun _ _ _ h => h) (Y.bin rfl rfl rfl (br_addN (by omega))) ?_
        refine TA.take 23 rfl rfl rfl rfl (by kernel_rfl) (by kernel_rfl) (by kernel_rfl) rfl (by kernel_rfl) (by kernel_rfl) (fun _ _ _ h => h) (Y.sliceLH rfl Try.underlying30 sz5 rfl rfl rfl (by omega) (by omega)) ?_
        refine TA.one 15 (by kernel_rfl) rfl rfl rfl rfl (X.lit rfl el30 rfl rfl rfl (by decide) rfl) ?_
        rintro _ _ ⟨g102, rfl, rfl⟩
        refine ⟨(Or.inr (by repeat first | exact holds_nil | refine holds_cons inn ?_)), ?_⟩
        refine TA.one 24 (by kernel_rfl) rfl rfl rfl rfl (X.appendS rfl el30 rfl pul rfl (Src.cut8 Reads.rds Try.underlying30 inn (by omega) (by omega)) (by simp only [maxLen]; omega) (by omega)) ?_
        rintro _ _ ⟨a111, c111, rfl, rfl⟩
        simp only [Nat.zero_add, List.nil_append]
        obtain ⟨t, ht⟩ : ∃ t, t = shl16 (b.getD p 0).toUInt16 8 ||| (b.getD (p + 1) 0).toUInt16 := ⟨_, rfl⟩
        obtain ⟨v, hv⟩ : ∃ v, v = (b.drop (p + 4)).take (p + 4 + m - (p + 4)) := ⟨_, rfl⟩
        have hvl : p + 4 + m - (p + 4) = v.length := by rw [hv, List.length_take, List.length_drop]; omega
        rw [← hv, hvl, ← ht]
        rw [show p + 4 + m - (p + 4) = m by omega] at hv hvl
        refine ⟨(Or.inr (by repeat first | exact holds_nil | refine holds_cons inn ?_)), ?_⟩
        refine TA.take 25 rfl rfl rfl rfl (by kernel_rfl) (by kernel_rfl) (by kernel_rfl) rfl (by kernel_rfl) (by kernel_rfl) (fun _ _ _ h => h) (Y.buildS (cells := #[v16 t, .slice a111 v.length c111]) rfl rfl pl77 zc77 (by kernel_rfl)) ?_
        refine TA.one 26 (by kernel_rfl) rfl rfl rfl rfl (X.litA (bytes := 0) (z := .nilFunc) rfl Try.underlying41 zs77 rfl rfl rfl (by decide) (by decide) (by decide) rfl (cells := [v16 t, .slice a111 v.length c111]) rfl rfl) ?_
        rintro _ _ ⟨g113, rfl, rfl⟩
        refine ⟨(Or.inr (by repeat first | exact holds_nil | refine holds_cons inn ?_)), ?_⟩
        refine TA.one 27 (by kernel_rfl) rfl rfl rfl rfl (X.appendS rfl el41 rfl pul rfl (by first | exact Src.owns Try.underlying41 inn | exact Src.rds Try.underlying41 inn | exact Src.reads (by assumption) Try.underlying41 inn) (by simp only [maxLen]; omega) (by omega)) ?_
        rintro _ _ ⟨a114, c114, rfl, rfl⟩
        rw [show Dat.cs xs ++ [v16 t, .slice a111 v.length c111] = Dat.cs (xs ++ [((t, ⟨a111, c111, v⟩) : At)]) from (Dat.cs_app xs [((t, ⟨a111, c111, v⟩) : At)]).symm, show xs.length + 1 = (xs ++ [((t, ⟨a111, c111, v⟩) : At)]).length by simp]
        refine ⟨(Or.inr (by repeat first | exact holds_nil | refine holds_cons inn ?_)), ?_⟩
        refine TA.take 28 rfl rfl rfl rfl (by kernel_rfl) (by kernel_rfl) (by kernel_rfl) rfl (by kernel_rfl) (by kernel_rfl) (fun _ _ _ h => h) (by first | exact Y.fieldAddrJ rfl fo43_3 rfl nqq | exact Y.fieldAddr rfl fo43_3 rfl nqq) ?_
        refine TA.one0 29 (by kernel_rfl) rfl rfl rfl (X.store rfl (by kernel_rfl) rfl rfl rfl pul (by rw [msgC_size]; omega) rfl) ?_
        rintro _ _ rfl
        rw [show (msgC (clsR k) (mthR k) f (.slice ya xs.length yc)).setIfInBounds 14 (.slice a114 (xs ++ [((t, ⟨a111, c111, v⟩) : At)]).length c114) = msgC (clsR k) (mthR k) f (.slice a114 (xs ++ [((t, ⟨a111, c111, v⟩) : At)]).length c114) from rfl]
        refine ⟨(Or.inl (by kernel_rfl)), ?_⟩
        refine TA.done (by kernel_rfl) ?_
        refine TQ.next ?_
        refine TC.region ?_
        refine TL.val rfl rfl rfl (Y.move rfl rfl) ?_
        refine TL.val rfl rfl rfl (Y.bin rfl rfl rfl (br_addN (n := 4) (by omega))) ?_
        refine TL.val rfl rfl rfl (Y.move rfl rfl) ?_
        refine TL.val rfl rfl rfl (Y.bin rfl rfl rfl (br_addN (n := 3) (by omega))) ?_
        refine TL.val rfl rfl rfl (Y.bin rfl rfl rfl (br_quoN (n := 4) (by omega) (by omega))) ?_
        refine TL.val rfl rfl rfl (Y.bin rfl rfl rfl (br_mulN (n := 4) (by omega))) ?_
        refine TL.val rfl rfl rfl (Y.bin rfl rfl rfl (br_addN (by omega))) ?_
        refine TL.val rfl rfl rfl (Y.assign rfl rfl) ?_
        refine TL.nil ?_
        refine TQ.block_normal ?_
        refine TQ.to ((Ent.mkAt (t := t) (a := a111) pul rfl).trans (Ent.addEl pul pul)) ?_
        have hI' := hI.step (t := t) (by omega) (by rw [ht]; exact shl_or16 _ _) hm hv (by omega)
        refine TQ.loopF ((p + 4 + (m + 3) / 4 * 4, a114, c114, xs ++ [(t, ⟨a111, c111, v⟩)])) ((by rw [List.map_append]; exact hI')) ((by simp only; omega)) ⟨rfl, trivial⟩ (by (repeat first | apply Grow.refl | apply Grow.step | apply Grow.app)) ?_ ?_ ?_
        · kernel_rfl
        · rfl
        · simp only [List.cons_append, List.nil_append]
          exact ett
  · try simp only [decide_eq_true_eq, decide_eq_false_iff_not, Bool.not_eq_true', Bool.not_eq_false', Bool.and_eq_true, Bool.or_eq_true, Nat.not_lt, Nat.not_le, beq_iff_eq, bne_iff_ne] at c1
    refine TC.exit ?_
    refine TQ.then_exit ?_
    refine TQ.then_exit ?_
    refine TQ.block_exit ?_
    refine TQ.next ?_
    refine TC.seq ?_
    refine TC.region ?_
    refine TL.val rfl rfl rfl (Y.loadAgg rfl ag43 rfl (Cels.all (cs := msgC (clsR k) (mthR k) f (.slice ya xs.length yc)) inn) (by first | rfl | ((try simp only [List.length_map, List.length_set, List.length_replicate]); omega))) ?_
    refine TL.as (.agg (msgC (clsR k) (mthR k) f (.slice ya xs.length yc))) (by rfl) ?_
    refine TL.to (Ent.mkOwn (a := ya) (l := xs) pul pul rfl rfl rfl) ?_
    refine TL.eff rfl rfl rfl (X.call rfl Try.func27 (by kernel_rfl) rfl rfl (Fn.preE (by repeat first | (with_reducible apply Ent.refl) | (apply Ent.cons; case h => first | (with_reducible (repeat first | apply Pull.here | apply Pull.there); done) | (repeat first | apply Pull.here | apply Pull.there))) (refBuild_fn (clsR k) (mthR k) f ya yc xs _))) ?_
    rintro _ _ ⟨a125, c125, rfl, rfl⟩
    obtain ⟨o, ho⟩ : ∃ o, o = (SM (clsR k) (mthR k) f ⟨ya, yc, xs⟩).build := ⟨_, rfl⟩
    have key : o ≠ some b → ∀ x : SMsg, x.id.length = 12 → x.build ≠ some b := fun hne x hx e => by have := hI.only hb hk (by omega) x hx e; subst this; exact hne (ho.trans e)
    rw [← ho]
    refine TL.val rfl rfl rfl (Y.move rfl rfl) ?_
    refine TL.val rfl rfl rfl (Y.extract rfl rfl rfl) ?_
    refine TL.val rfl rfl rfl (Y.extract rfl rfl rfl) ?_
    refine TL.val rfl rfl rfl (Y.assign rfl rfl) ?_
    refine TL.val rfl rfl rfl (Y.assign rfl rfl) ?_
    refine TL.nil ?_
    refine TQ.next ?_
    refine TC.seq ?_
    refine TC.seq ?_
    refine TC.region ?_
    refine TL.val rfl rfl rfl (Y.move rfl rfl) ?_
    refine TL.val rfl rfl rfl (Y.bin rfl rfl rfl (br_neN (n := 0))) ?_
    refine TL.val rfl rfl rfl (Y.move rfl rfl) ?_
    refine TL.case (fun g16_2 => ?_) (fun g16_2 => ?_)
    · try simp only [decide_eq_true_eq, decide_eq_false_iff_not, Bool.not_eq_true', Bool.not_eq_false', Nat.not_lt, Nat.not_le, beq_iff_eq, bne_iff_ne] at g16_2
      refine TL.not rfl rfl rfl ?_
      refine TL.not rfl rfl rfl ?_
      refine TL.not rfl rfl rfl ?_
      refine TL.not rfl rfl rfl ?_
      refine TL.not rfl rfl rfl ?_
      refine TL.val rfl rfl rfl (Y.pick_t rfl rfl rfl) ?_
      refine TL.nil ?_
      refine TQ.next ?_
      refine TC.cond_t rfl ?_
      refine TC.seq ?_
      have hbadR : ∀ x : SMsg, x.id.length = 12 → x.build ≠ some b := by first | exact key (oe_no g16_2) | exact key (ob_no c4)
      refine TC.region ?_
      refine TL.val rfl rfl rfl (Y.buildS rfl rfl pl43 zc43 rfl) ?_
      refine TL.as (.agg zmsg) (by rfl) ?_
      refine TL.eff0 rfl rfl (by first | exact X.storeAll rfl sz43 (by rfl) rfl rfl (allOne (by rfl)) pul (by rfl) | exact X.storeAll rfl sz43 szz rfl rfl (by simp [Value.oneCell']) pul szz | exact X.storeAgg rfl sz43 szz rfl rfl (by simp [Value.oneCell']) pul szz (writeM (by ((try simp only [List.length_set, List.length_map, List.length_append, List.length_replicate]); omega)))) ?_
      rintro _ _ rfl
      refine TL.val rfl rfl rfl (Y.assign rfl rfl) ?_
      refine TL.nil ?_
      refine TQ.next ?_
      refine TC.ret ?_
      refine TQ.then_ret ?_
      refine TQ.retE (resL rfl (Res.agg rfl ag43 (by first | exact Cels.all (cs := zmsg) inn | exact Cels.all (cs := msgC (clsR k) (mthR k) f (.slice ya xs.length yc)) inn) (by first | rfl | assumption | omega) (Res.tmp rfl Res.nil))) ((by first | exact ⟨_, _, _, _, _, xs, 0, rfl, .inl ⟨rfl, hgoodR⟩, rfl⟩ | exact ⟨0, 0, fun _ => 0, none, 0, [], 2, rfl, .inr ⟨rfl, rfl, rfl, rfl, rfl, hbadR⟩, rfl⟩)) ?_
      exact (by first | (have _h := hgoodR; exact ett) | (have _h := hbadR; exact Ent.trans Ent.dat0 ett))
    · try simp only [decide_eq_true_eq, decide_eq_false_iff_not, Bool.not_eq_true', Bool.not_eq_false', Nat.not_lt, Nat.not_le, beq_iff_eq, bne_iff_ne] at g16_2
      refine TL.valG rfl rfl rfl (Y.move rfl rfl) ?_
      refine TL.valG rfl rfl rfl (by first | exact Y.str rfl Try.underlying30 Try.underlying9 Try.underlying5 rfl Reads.rds inn | exact Y.str rfl Try.underlying30 Try.underlying9 Try.underlying5 rfl Reads.owns inn | exact Y.str rfl Try.underlying30 Try.underlying9 Try.underlying5 rfl (by assumption) inn) ?_
      refine TL.valG rfl rfl rfl (Y.move rfl rfl) ?_
      refine TL.valG rfl rfl rfl (by first | exact Y.str rfl Try.underlying30 Try.underlying9 Try.underlying5 rfl Reads.rds inn | exact Y.str rfl Try.underlying30 Try.underlying9 Try.underlying5 rfl Reads.owns inn | exact Y.str rfl Try.underlying30 Try.underlying9 Try.underlying5 rfl (by assumption) inn) ?_
      refine TL.valG rfl rfl rfl (Y.neStr rfl rfl rfl) ?_
      refine TL.val rfl rfl rfl (Y.pick_f rfl rfl rfl) ?_
      refine TL.nil ?_
      refine TQ.next ?_
      refine TC.cond rfl (fun c4 => ?_) (fun c4 => ?_)
      · try simp only [decide_eq_true_eq, decide_eq_false_iff_not, Bool.not_eq_true', Bool.not_eq_false', Bool.and_eq_true, Bool.or_eq_true, Nat.not_lt, Nat.not_le, beq_iff_eq, bne_iff_ne] at c4
        refine TC.seq ?_
        have hbadR : ∀ x : SMsg, x.id.length = 12 → x.build ≠ some b := by first | exact key (oe_no g16_2) | exact key (ob_no c4)
        refine TC.region ?_
        refine TL.val rfl rfl rfl (Y.buildS rfl rfl pl43 zc43 rfl) ?_
        refine TL.as (.agg zmsg) (by rfl) ?_
        refine TL.eff0 rfl rfl (by first | exact X.storeAll rfl sz43 (by rfl) rfl rfl (allOne (by rfl)) pul (by rfl) | exact X.storeAll rfl sz43 szz rfl rfl (by simp [Value.oneCell']) pul szz | exact X.storeAgg rfl sz43 szz rfl rfl (by simp [Value.oneCell']) pul szz (writeM (by ((try simp only [List.length_set, List.length_map, List.length_append, List.length_replicate]); omega)))) ?_
        rintro _ _ rfl
        refine TL.val rfl rfl rfl (Y.assign rfl rfl) ?_
        refine TL.nil ?_
        refine TQ.next ?_
        refine TC.ret ?_
        refine TQ.then_ret ?_
        refine TQ.retE (resL rfl (Res.agg rfl ag43 (by first | exact Cels.all (cs := zmsg) inn | exact Cels.all (cs := msgC (clsR k) (mthR k) f (.slice ya xs.length yc)) inn) (by first | rfl | assumption | omega) (Res.tmp rfl Res.nil))) ((by first | exact ⟨_, _, _, _, _, xs, 0, rfl, .inl ⟨rfl, hgoodR⟩, rfl⟩ | exact ⟨0, 0, fun _ => 0, none, 0, [], 2, rfl, .inr ⟨rfl, rfl, rfl, rfl, rfl, hbadR⟩, rfl⟩)) ?_
        exact (by first | (have _h := hgoodR; exact ett) | (have _h := hbadR; exact Ent.trans Ent.dat0 ett))
      · try simp only [decide_eq_true_eq, decide_eq_false_iff_not, Bool.not_eq_true', Bool.not_eq_false', Bool.and_eq_true, Bool.or_eq_true, Nat.not_lt, Nat.not_le, beq_iff_eq, bne_iff_ne] at c4
        refine TC.skip ?_
        refine TQ.next ?_
        refine TC.seq ?_
        have hgoodR : (⟨clsR k, mthR k, idL f, xs.map pl⟩ : SMsg).build = some b := ho.symm.trans (ob_yes g16_2 c4)
        refine TC.region ?_
        refine TL.val rfl rfl rfl (Y.loadAgg rfl ag43 rfl (Cels.all (cs := msgC (clsR k) (mthR k) f (.slice ya xs.length yc)) inn) (by first | rfl | ((try simp only [List.length_map, List.length_set, List.length_replicate]); omega))) ?_
        refine TL.as (.agg (msgC (clsR k) (mthR k) f (.slice ya xs.length yc))) (by rfl) ?_
        refine TL.eff0 rfl rfl (X.storeAll rfl (by kernel_rfl) (msgC_size _ _ f _) rfl rfl (msg_one _ _ f _ _ _) pul rfl) ?_
        rintro _ _ rfl
        refine TL.val rfl rfl rfl (Y.assign rfl rfl) ?_
        refine TL.nil ?_
        refine TQ.next ?_
        refine TC.ret ?_
        refine TQ.retE (resL rfl (Res.agg rfl ag43 (by first | exact Cels.all (cs := zmsg) inn | exact Cels.all (cs := msgC (clsR k) (mthR k) f (.slice ya xs.length yc)) inn) (by first | rfl | assumption | omega) (Res.tmp rfl Res.nil))) ((by first | exact ⟨_, _, _, _, _, xs, 0, rfl, .inl ⟨rfl, hgoodR⟩, rfl⟩ | exact ⟨0, 0, fun _ => 0, none, 0, [], 2, rfl, .inr ⟨rfl, rfl, rfl, rfl, rfl, hbadR⟩, rfl⟩)) ?_
        exact (by first | (have _h := hgoodR; exact ett) | (have _h := hbadR; exact Ent.trans Ent.dat0 ett))
--REG rostrum/rostrumref04.Parse : _ _ ⟨pc{d}, pm{d}, pf{d}, pa{d}, pcap{d}, pl{d}, pe{d}, rfl, hP{d}, rfl⟩ => (stun.refParse_fn _ _ _ _ (by first | assumption | rfl) (by omega) _)
theorem refParse_fn (a : Option Addr) (n cap : Nat) (b : List UInt8) (hn : b.length = n) (hr : n ≤ 140737488351232) (L : List SA) :
    Fn Try.prog 29 [.slice a n cap] (SA.rds 1 (.slice a n cap) n (b.map v8) :: L)
      (fun v L' => ∃ c m f' a' cap' l' e, v = .tuple #[.agg (msgC c m f' (.slice a' (l' : List At).length cap')), vN e] ∧ PR b c m f' (l'.map pl) e ∧ L' = SA.dat (⟨a', cap', l'⟩ : Sl At) :: SA.rds 1 (.slice a n cap) n (b.map v8) :: L) := by
  by_cases hs : b.length < 20 ∨ 1500 < b.length
  · refine (refParse_len a n cap b hn hs L).mono fun v L' ⟨hv, hL⟩ => ⟨_, Ent.dat0, 0, 0, fun _ => 0, none, 0, [], 2, hv, .inr ⟨rfl, rfl, rfl, rfl, rfl, fun x hx e => ?_⟩, by rw [hL]⟩
    have h1 := build_len hx e
    have h2 := ((build_iff x b).1 e).2.1
    omega
  · obtain ⟨k0, k1, n0, n1, m0, m1, m2, m3, f, rest, hb⟩ := header (b := b) (by omega)
    exact refParse_ok k0 k1 n0 n1 m0 m1 m2 m3 f rest a n cap b hb hn (by omega) L
/-- what reading comes to is one thing -/
theorem PR.one {b : List UInt8} {c m c' m' : Int} {f f' : Nat → UInt8} {l l' : List PA} {e e' : Nat} (h : PR b c m f l e) (h' : PR b c' m' f' l' e') : c = c' ∧ m = m' ∧ idL f = idL f' ∧ l = l' ∧ e = e' := by
  rcases h with ⟨rfl, h⟩ | ⟨rfl, rfl, rfl, rfl, rfl, h⟩ <;> rcases h' with ⟨rfl, h'⟩ | ⟨rfl, rfl, rfl, rfl, rfl, h'⟩
  · have key : (⟨c, m, idL f, l⟩ : SMsg) = ⟨c', m', idL f', l'⟩ := by
      obtain ⟨g, h5, e5⟩ := (build_iff _ _).1 h
      have hlen : 20 ≤ b.length := build_len rfl h
      obtain ⟨k0, k1, n0, n1, m0, m1, m2, m3, f0, rest, hb⟩ := header (b := b) hlen
      have h2 := h; have h2' := h'
      rw [hb] at h2 h2'
      obtain ⟨g1, a1, -, -, a3, a4, -⟩ := build_head (by rfl) h2
      obtain ⟨g1', a1', -, -, a3', a4', -⟩ := build_head (by rfl) h2'
      have el := enc_inj (small_good g1) (small_good g1') (a4.trans a4'.symm)
      obtain ⟨-, p2, p3, p4, p5, -⟩ := good_parts g1
      obtain ⟨-, q2, q3, q4, q5, -⟩ := good_parts g1'
      simp only at *
      have k := kind_of c.toNat m.toNat (by omega) (by omega)
      have k' := kind_of c'.toNat m'.toNat (by omega) (by omega)
      rw [a1] at k; rw [a1'] at k'
      have e1 := k.2.2.1.symm.trans k'.2.2.1
      have e2 := k.2.2.2.1.symm.trans k'.2.2.2.1
      rw [el, a3, a3', show c = c' by omega, show m = m' by omega]
    injection key with k1 k2 k3 k4
    exact ⟨k1, k2, k3, k4, rfl⟩
  · exact absurd h (h' _ rfl)
  · exact absurd h' (h _ rfl)
  · exact ⟨rfl, rfl, rfl, rfl, rfl⟩
end stun
end Go.Proofs.Ytpmplnkempcmjaa

/- ours, Same; the statement StunParses, walked. -/
namespace Go.Proofs.Ytpmplnkempcmjaa
set_option linter.unusedVariables false
set_option linter.unusedSimpArgs false
open Go.RowKit
namespace stun
--FACTS
theorem Ent.hang {α : Type} [Dat α] {a : Option Addr} {cap : Nat} {l : List α} {L L1 : List SA} (hp : Pull (SA.dat (⟨a, cap, l⟩ : Sl α)) L L1) : Ent L (SA.rdss (l.flatMap Dat.g) :: SA.dat (⟨a, cap, l⟩ : Sl α) :: L1) :=
  hp.ent.trans (Ent.rdss_sub fun q hq => List.mem_cons_of_mem _ hq)
theorem cs_take_s {l : List At} {k : Nat} {x : At} (h : l[k]? = some x) : Dat.cs (l.take k) ++ Dat.c x = Dat.cs (l.take (k + 1)) := by
  rw [List.take_add_one, h, Option.toList_some, Dat.cs_app, Dat.cs_one]
theorem take_len {α : Type} {l : List α} {k : Nat} (h : k ≤ l.length) : (l.take k).length = k := by rw [List.length_take]; omega
theorem getS' {α β : Type} {g : α → β} {l l' : List α} {i : Nat} {x x' : α} (h : l.map g = l'.map g) (hx : l[i]? = some x) (hx' : l'[i]? = some x') : g x = g x' := by
  have h1 : (l.map g)[i]? = some (g x) := by rw [List.getElem?_map, hx]; rfl
  have h2 : (l'.map g)[i]? = some (g x') := by rw [List.getElem?_map, hx']; rfl
  rw [h, h2] at h1
  exact (Option.some.inj h1).symm
theorem PR.len {b : List UInt8} {c m : Int} {f : Nat → UInt8} {l : List At} {e : Nat} (h : PR b c m f (l.map pl) e) : l.length * 32 ≤ 140737488351232 := by
  rcases h with ⟨rfl, h⟩ | ⟨rfl, rfl, rfl, rfl, h, -⟩
  · have := (good_parts ((build_iff _ _).1 h).1).2.2.2.2.2
    simp only [List.length_map] at this
    omega
  · have : l = [] := by simpa using h
    subst this; simp
end stun
end Go.Proofs.Ytpmplnkempcmjaa

/- Arguments that are data meet the rows. No program is named. -/
namespace Go.Proofs.Ytpmplnkempcmjaa
set_option linter.unusedVariables false
set_option linter.unusedSimpArgs false
open Go.ChangeShapes Go.WideShapes Go.ChangeAt Go.RowKit
section
variable {H : Type} {enc : TypeId × Value → H} {P : Program} {W : World} {base : Nat} {t e : TypeId} {v : Value} {d : DataW H} {p : List MemPlace} {ts : List TypeId} {ds : List (DataW H)}
theorem open_dat {α : Type} [Dat α] {Bd : α → Prop} (hT : DatT P t α Bd) (j : Nat) (k : DataW.Trod enc P W 0 (fun _ => true) true t v d p)
    (hsz : (DataW.weightsEach P ts ds).all (· ≤ reachBytes) = true) (ht : ts[j]? = some t) (hd : ds[j]? = some d) : ∃ x : α, v.cells.toList = Dat.c x ∧ RdAll W (Dat.g x) ∧ Bd x :=
  hT H enc W _ (Opn.top k hsz ht hd)
theorem open_struct {α : Type} [Dat α] {Bd : α → Prop} {fs : Array Field} (hT : DatT P t α Bd) (hu : P.underlying t = some (.struct fs)) (j : Nat) (o : Value.okWide P W .any base t v) (k : DataW.Trod enc P W 0 (fun _ => true) true t v d p)
    (hsz : (DataW.weightsEach P ts ds).all (· ≤ reachBytes) = true) (ht : ts[j]? = some t) (hd : ds[j]? = some d) : ∃ x : α, v = .agg (Dat.c x).toArray ∧ RdAll W (Dat.g x) ∧ Bd x := by
  unfold Value.okWide at o
  simp only [hu] at o
  obtain ⟨cs, rfl, _⟩ := o
  obtain ⟨x, h1, h2⟩ := open_dat hT j k hsz ht hd
  exact ⟨x, by simp only [Value.cells] at h1; rw [← h1], h2⟩
theorem open_slice {α : Type} [Dat α] {Bd : Sl α → Prop} (hT : DatT P t (Sl α) Bd) (hu : P.underlying t = some (.slice e)) (j : Nat) (o : Value.okWide P W .any base t v) (k : DataW.Trod enc P W 0 (fun _ => true) true t v d p)
    (hsz : (DataW.weightsEach P ts ds).all (· ≤ reachBytes) = true) (ht : ts[j]? = some t) (hd : ds[j]? = some d) : ∃ x : Sl α, v = x.v ∧ RdAll W (Dat.g x) ∧ Bd x := by
  obtain ⟨a, len, cap, rfl⟩ := okWide_slice hu o
  obtain ⟨x, h1, h2⟩ := open_dat hT j k hsz ht hd
  refine ⟨x, ?_, h2⟩
  have h1 : [Value.slice a len cap] = [x.v] := h1
  exact List.head_eq_of_cons_eq h1
theorem DatT.bytes (ht : P.underlying t = some (.slice e)) (he : P.underlying e = some (.int .u8)) (hc : P.cellsOf e = 1) (hB : P.bytesOf e = 1) : DatT P t Bs (fun s => s.l.length ≤ reachBytes) := fun H enc W cs ho => by
  obtain ⟨x, h1, h2, h3⟩ := DatT.slice (α := UInt8) ht hc hB (DatT.u8 he) H enc W cs ho
  exact ⟨x, h1, h2, by simpa using h3.1⟩
theorem SA.dat_arg {α : Type} [Dat α] {x : α} (h : RdAll W (Dat.g x)) : ∃ R, (SA.dat x).p W (fun _ => False) R ∧ ∀ k, R k → k < W.heap.size := h.st
theorem in_last {A : SA} : ∀ As : List SA, In A (As ++ [A])
  | [] => In.here
  | _ :: As => In.there (in_last As)
/-- the statement's walk meets the row: its arguments are such data, and stay -/
theorem Fn.topD {f : FuncId} {args : List Value} {As : List SA} (h : Fn P f args (As ++ [SA.old W]) (fun v L' => v = .bool true ∧ L' = As ++ [SA.old W])) (hA : ∀ A, In A As → ∃ R, A.p W (fun _ => False) R ∧ ∀ k, R k → k < W.heap.size) :
    Calls P f args.toArray W fun e w' => e = .returned (.bool true) ∧ Fr [] W w' :=
  Fn.top (As := As) (h.mono fun v L' ⟨e1, e2⟩ => ⟨L', Ent.refl, e1, e2 ▸ in_last As⟩) hA
end
end Go.Proofs.Ytpmplnkempcmjaa

/- StunBuilds meets the row. -/
namespace Go.Proofs.Ytpmplnkempcmjaa
set_option linter.unusedVariables false
set_option linter.unusedSimpArgs false
open Go.ChangeShapes Go.WideShapes Go.ChangeAt Go.RowKit
namespace stun
structure Id12 where
  f : Nat → UInt8
instance : Dat Id12 where
  sz := 12
  c x := (idL x.f).map v8
  cs l := l.flatMap fun x => (idL x.f).map v8
  g _ := []
  dflt := ⟨fun _ => 0⟩
  cs_eq _ := rfl
  len _ := rfl
  one x v hv := one8 v hv
  pos := by decide
theorem idL_of (bs : List UInt8) (h : bs.length = 12) : idL (fun i => bs.getD i 0) = bs := by
  match bs, h with
  | [b0, b1, b2, b3, b4, b5, b6, b7, b8, b9, b10, b11], _ => rfl
theorem DatT.id {P : Program} {t e : TypeId} (ht : P.underlying t = some (.array 12 e)) (he : P.underlying e = some (.int .u8)) (hc : P.cellsOf e = 1) (hn : P.cellsOf t = 12) : DatT P t Id12 (fun _ => True) := fun H enc W cs ho => by
  obtain ⟨bs, h1, h2⟩ := Opn.byteArr ho ht he hc hn
  refine ⟨⟨fun i => bs.getD i 0⟩, ?_, fun q hq => (by cases hq), trivial⟩
  rw [h2]
  show bc bs = (idL (fun i => bs.getD i 0)).map v8
  rw [idL_of bs h1]; rfl
abbrev MsgD := Int × Int × Id12 × Sl At
theorem datAt : DatT Try.prog 77 At (fun x => True ∧ x.2.l.length ≤ reachBytes) :=
  DatF.all (DatF.cons (n := 1) Try.underlying77 (i := 0) rfl (by kernel_rfl) (DatT.u16 Try.underlying22) (DatF.last (n := 1) Try.underlying77 (i := 1) rfl (by kernel_rfl) (DatT.bytes Try.underlying30 Try.underlying5 (by kernel_rfl) (by kernel_rfl)) (by kernel_rfl)))
theorem datMsg : DatT Try.prog 43 MsgD (fun x => inI x.1 ∧ inI x.2.1 ∧ True ∧ (x.2.2.2.l.length * 32 ≤ reachBytes ∧ ∀ y ∈ x.2.2.2.l, True ∧ y.2.l.length ≤ reachBytes)) :=
  DatF.all (DatF.cons (n := 1) Try.underlying43 (i := 0) rfl (by kernel_rfl) (DatT.int Try.underlying3) (DatF.cons (n := 1) Try.underlying43 (i := 1) rfl (by kernel_rfl) (DatT.int Try.underlying3)
    (DatF.cons (n := 12) Try.underlying43 (i := 2) rfl (by kernel_rfl) (DatT.id Try.underlying40 Try.underlying5 (by kernel_rfl) (by kernel_rfl))
      (DatF.last (n := 1) Try.underlying43 (i := 3) rfl (by kernel_rfl) (DatT.slice Try.underlying41 (by kernel_rfl) (by kernel_rfl) datAt) (by kernel_rfl)))))
section
variable {H : Type} {enc : TypeId × Value → H} {W : World} {base : Nat}
set_option maxRecDepth 100000 in
theorem open_msg {v : Value} {d : DataW H} {p : List MemPlace} {ts : List TypeId} {ds : List (DataW H)} (j : Nat) (o : Value.okWide Try.prog W .any base 43 v) (k : DataW.Trod enc Try.prog W 0 (fun _ => true) true 43 v d p)
    (hsz : (DataW.weightsEach Try.prog ts ds).all (· ≤ reachBytes) = true) (ht : ts[j]? = some 43) (hd : ds[j]? = some d) :
    ∃ c m f a cap l, v = .agg (msgC c m f (.slice a l.length cap)) ∧ RdAll W (Dat.g (⟨a, cap, l⟩ : Sl At)) ∧ inI c ∧ inI m ∧ l.length * 32 ≤ 140737488351232 ∧ ∀ x ∈ l, x.2.l.length ≤ 140737488351232 := by
  obtain ⟨⟨c, m, ⟨f⟩, ⟨a, cap, l⟩⟩, h1, h2, h3, h4, -, h5, h6⟩ := open_struct datMsg Try.underlying43 j o k hsz ht hd
  exact ⟨c, m, f, a, cap, l, h1, h2, h3, h4, h5, fun x hx => (h6 x hx).2⟩
end
end stun
end Go.Proofs.Ytpmplnkempcmjaa

/- The statement StunBack, walked; it meets the row. -/
namespace Go.Proofs.Ytpmplnkempcmjaa
set_option linter.unusedVariables false
set_option linter.unusedSimpArgs false
open Go.ChangeShapes Go.WideShapes Go.ChangeAt Go.RowKit
namespace stun
--FACTS
theorem ob_len {x : SMsg} : (ob x.build).length ≤ 1500 := by
  unfold SMsg.build
  split
  · rename_i h; exact h.2
  · simp [ob]
theorem ob_some {o : Option (List UInt8)} (h : oe o = 0) : o = some (ob o) := by
  cases o with
  | none => cases h
  | some w => rfl
end stun
end Go.Proofs.Ytpmplnkempcmjaa

/- The rotations. -/
namespace Go.Proofs.Ytpmplnkempcmjaa
set_option linter.unusedVariables false
set_option linter.unusedSimpArgs false
open Go.RowKit
namespace rot
namespace FxShaRot
set_option maxRecDepth 100000

end FxShaRot
open FxShaRot
def rotl (x : UInt32) (n : Nat) : UInt32 := shl32 x n ||| shr32 x (32 - n)
theorem ref_fn (x : UInt32) (n : Nat) (hn : n ≤ 32) (L : List SA) : Fn Try.prog 66 [v32 x, .int .u64 (n : Int)] L (fun v L' => v = v32 (rotl x n) ∧ L' = L) := by
  refine Fn.of (N := 13) Try.func66 rfl rfl ?_
  intro Xh
  refine TC.seq ?_
  refine TC.region ?_
  refine TL.val rfl rfl rfl (Y.assign rfl rfl) ?_
  refine TL.nil ?_
  refine TQ.next ?_
  refine TC.seq ?_
  refine TC.region ?_
  refine TL.val rfl rfl rfl (Y.move rfl rfl) ?_
  refine TL.val rfl rfl rfl (Y.move rfl rfl) ?_
  refine TL.val rfl rfl rfl (Y.bin rfl rfl rfl (br_shl32)) ?_
  refine TL.val rfl rfl rfl (Y.move rfl rfl) ?_
  refine TL.val rfl rfl rfl (Y.move rfl rfl) ?_
  refine TL.val rfl rfl rfl (Y.bin rfl rfl rfl (br_subNu (m := 32) (by omega) (by omega))) ?_
  refine TL.val rfl rfl rfl (Y.bin rfl rfl rfl (br_shr32)) ?_
  refine TL.val rfl rfl rfl (Y.bin rfl rfl rfl (br_or32)) ?_
  refine TL.val rfl rfl rfl (Y.assign rfl rfl) ?_
  refine TL.nil ?_
  refine TQ.next ?_
  refine TC.ret ?_
  refine TQ.retE (res1 rfl rfl) (⟨rfl, rfl⟩) ?_
  exact ett
end rot
end Go.Proofs.Ytpmplnkempcmjaa

/- The block of SHA-1, as the program has it. -/
namespace Go.Proofs.Ytpmplnkempcmjaa
set_option linter.unusedVariables false
set_option linter.unusedSimpArgs false
open Go.RowKit
namespace sha
open rot
theorem low5 (n : Nat) (hn : n < 32) : (UInt64.ofNat n &&& 31).toNat = n := by
  have h := Nat.and_two_pow_sub_one_eq_mod n 5
  simp only [Nat.reducePow, Nat.reduceSub] at h
  rw [UInt64.toNat_and]
  simp only [UInt64.toNat_ofNat', UInt64.reduceToNat, Nat.reducePow]
  rw [Nat.mod_eq_of_lt (by omega), h]; omega
theorem low5s (n : Nat) (hn : n < 32) : ((32 : UInt64) - (UInt64.ofNat n &&& 31)).toNat = 32 - n := by
  rw [UInt64.toNat_sub, low5 n hn]
  simp only [UInt64.reduceToNat, Nat.reducePow]; omega
namespace FxShaBlock
set_option maxRecDepth 100000
theorem ag123 : Program.aggN Try.prog 123 = some 80 := by kernel_rfl
theorem ar121 : Program.arrI Try.prog 121 = some (5, 1) := by kernel_rfl
theorem ar123 : Program.arrI Try.prog 123 = some (80, 1) := by kernel_rfl
theorem sc26 : Program.isSc Try.prog 26 = true := by kernel_rfl
theorem sc5 : Program.isSc Try.prog 5 = true := by kernel_rfl
theorem sl30 : Program.slI Try.prog 30 = some 1 := by kernel_rfl
theorem sz26 : (Try.prog.info? 26).map (·.size) = some 1 := by kernel_rfl
theorem zc120 : Program.zeroC Try.prog 120 = some ((List.replicate 5 (0 : UInt32)).map v32).toArray := by kernel_rfl
theorem zc123 : Program.zeroC Try.prog 123 = some ((List.replicate 80 (0 : UInt32)).map v32).toArray := by kernel_rfl
end FxShaBlock
open FxShaBlock
theorem bits_fn (x : UInt32) (n : Nat) (hn : n < 32) (L : List SA) : Fn Try.prog 67 [v32 x, vN n] L (fun v L' => v = v32 (rotl x n) ∧ L' = L) := by
  refine Fn.of (N := 17) Try.func67 rfl rfl ?_
  intro Xh
  refine TC.seq ?_
  refine TC.region ?_
  refine TL.val rfl rfl rfl (Y.assign rfl rfl) ?_
  refine TL.nil ?_
  refine TQ.next ?_
  refine TC.seq ?_
  refine TC.region ?_
  refine TL.val rfl rfl rfl (Y.move rfl rfl) ?_
  refine TL.val rfl rfl rfl (Y.conv rfl Try.underlying3 Try.underlying80 rfl cv_N_64) ?_
  refine TL.val rfl rfl rfl (Y.bin rfl rfl rfl (br_and64 (y := 31))) ?_
  refine TL.val rfl rfl rfl (Y.assign rfl rfl) ?_
  refine TL.nil ?_
  refine TQ.next ?_
  refine TC.seq ?_
  refine TC.region ?_
  refine TL.val rfl rfl rfl (Y.move rfl rfl) ?_
  refine TL.val rfl rfl rfl (Y.move rfl rfl) ?_
  refine TL.val rfl rfl rfl (Y.bin rfl rfl rfl (br_shl32)) ?_
  refine TL.val rfl rfl rfl (Y.move rfl rfl) ?_
  refine TL.val rfl rfl rfl (Y.move rfl rfl) ?_
  refine TL.val rfl rfl rfl (Y.bin rfl rfl rfl (br_sub64 (x := 32))) ?_
  refine TL.val rfl rfl rfl (Y.bin rfl rfl rfl (br_shr32)) ?_
  refine TL.val rfl rfl rfl (Y.bin rfl rfl rfl (br_or32)) ?_
  refine TL.val rfl rfl rfl (Y.assign rfl rfl) ?_
  refine TL.nil ?_
  refine TQ.next ?_
  refine TC.ret ?_
  refine TQ.retE (res1 rfl rfl) (⟨by rw [low5 n hn, low5s n hn]; rfl, rfl⟩) ?_
  exact ett

/-! ### what it computes -/
def word (bs : List UInt8) (k : Nat) : UInt32 :=
  shl32 (bs.getD (4 * k) 0).toUInt32 24 ||| shl32 (bs.getD (4 * k + 1) 0).toUInt32 16 ||| shl32 (bs.getD (4 * k + 2) 0).toUInt32 8 ||| (bs.getD (4 * k + 3) 0).toUInt32
def fill1 (bs : List UInt8) : Nat → List UInt32
  | 0 => List.replicate 80 0
  | k + 1 => (fill1 bs k).set k (word bs k)
def fill2 (bs : List UInt8) : Nat → List UInt32
  | 0 => fill1 bs 16
  | j + 1 => (fill2 bs j).set (j + 16) (rotl ((fill2 bs j).getD (j + 16 - 3) 0 ^^^ (fill2 bs j).getD (j + 16 - 8) 0 ^^^ (fill2 bs j).getD (j + 16 - 14) 0 ^^^ (fill2 bs j).getD (j + 16 - 16) 0) 1)
theorem fill1_len (bs : List UInt8) : ∀ k, (fill1 bs k).length = 80
  | 0 => by simp [fill1]
  | k + 1 => by simp [fill1, fill1_len bs k]
theorem fill2_len (bs : List UInt8) : ∀ k, (fill2 bs k).length = 80
  | 0 => by simp [fill2, fill1_len]
  | k + 1 => by simp [fill2, fill2_len bs k]
def ff (q : Nat) (b c d : UInt32) : UInt32 := if q = 0 then d ^^^ (b &&& (c ^^^ d)) else if q = 1 then b ^^^ c ^^^ d else if q = 2 then (b &&& c) ||| (d &&& (b ||| c)) else b ^^^ c ^^^ d
def kk (q : Nat) : UInt32 := if q = 0 then 1518500249 else if q = 1 then 1859775393 else if q = 2 then 2400959708 else 3395469782
structure S5 where
  a : UInt32
  b : UInt32
  c : UInt32
  d : UInt32
  e : UInt32
def step (t : Nat) (x : UInt32) (s : S5) : S5 := ⟨rotl s.a 5 + ff (t / 20) s.b s.c s.d + s.e + kk (t / 20) + x, s.a, rotl s.b 30, s.c, s.d⟩
def rounds (ws : List UInt32) (s : S5) : Nat → S5
  | 0 => s
  | k + 1 => step k (ws.getD k 0) (rounds ws s k)
def adds (hs rs : List UInt32) : Nat → List UInt32
  | 0 => hs
  | k + 1 => (adds hs rs k).set k ((adds hs rs k).getD k 0 + rs.getD k 0)
theorem adds_len (hs rs : List UInt32) : ∀ k, (adds hs rs k).length = hs.length
  | 0 => rfl
  | k + 1 => by simp [adds, adds_len hs rs k]
def S5.list (s : S5) : List UInt32 := [s.a, s.b, s.c, s.d, s.e]
def s5 (hs : List UInt32) : S5 := ⟨hs.getD 0 0, hs.getD 1 0, hs.getD 2 0, hs.getD 3 0, hs.getD 4 0⟩
def block (hs : List UInt32) (bs : List UInt8) : List UInt32 := adds hs (rounds (fill2 bs 64) (s5 hs) 80).list 5
theorem ff_0 {q : Nat} {b c d : UInt32} (h : q = 0) : ff q b c d = d ^^^ (b &&& (c ^^^ d)) := by subst h; rfl
theorem ff_1 {q : Nat} {b c d : UInt32} (h : q = 1) : ff q b c d = b ^^^ c ^^^ d := by subst h; rfl
theorem ff_2 {q : Nat} {b c d : UInt32} (h : q = 2) : ff q b c d = (b &&& c) ||| (d &&& (b ||| c)) := by subst h; rfl
theorem ff_3 {q : Nat} {b c d : UInt32} (h : ¬ q = 0) (h1 : ¬ q = 1) (h2 : ¬ q = 2) : ff q b c d = b ^^^ c ^^^ d := by simp [ff, h, h1, h2]
theorem kk_0 {q : Nat} (h : q = 0) : kk q = 1518500249 := by subst h; rfl
theorem kk_1 {q : Nat} (h : q = 1) : kk q = 1859775393 := by subst h; rfl
theorem kk_2 {q : Nat} (h : q = 2) : kk q = 2400959708 := by subst h; rfl
theorem kk_3 {q : Nat} (h : ¬ q = 0) (h1 : ¬ q = 1) (h2 : ¬ q = 2) : kk q = 3395469782 := by simp [kk, h, h1, h2]

set_option maxHeartbeats 4000000 in
theorem block_fn (hb T n cap : Nat) (p : Addr) (hs : List UInt32) (bs : List UInt8) (A : SA) (hA : Reads A 1 (.slice (some p) n cap) n (bs.map v8)) (h5 : hs.length = 5) (hn : 64 ≤ n) (hl : bs.length = n) (L : List SA) :
    Fn Try.prog 65 [pt hb 0, .slice (some p) n cap] (SA.blk hb (hs.map v32).toArray T :: A :: L) (fun v L' => v = .tuple #[] ∧ L' = SA.blk hb ((block hs bs).map v32).toArray T :: A :: L) := by
  refine Fn.of (N := 178) Try.func65 rfl rfl ?_
  intro Xh
  refine TC.seq ?_
  refine TC.region ?_
  refine TL.eff rfl rfl rfl (X.alloc rfl zc123) ?_
  rintro _ _ ⟨b4, rfl, rfl⟩
  refine TL.nil ?_
  refine TQ.next ?_
  refine TC.seq ?_
  refine TC.seq ?_
  refine TC.region ?_
  refine TL.val rfl rfl rfl (Y.move rfl rfl) ?_
  refine TL.nil ?_
  refine TQ.next ?_
  refine TC.block ?_
  refine TC.loopF (ι := Nat) [] (fun k => k ≤ 16) (fun k => [(18, some (vN k))]) (fun k => [SA.blk b4 ((fill1 bs k).map v32).toArray 123]) (fun k => 16 - k) (0) (by omega) ⟨rfl, trivial⟩ (Pulls.cons pul Pulls.nil) ?_
  rintro k hk F' L' rfl hL'
  simp only [List.cons_append, List.nil_append] at hL'
  subst hL'
  have hw := fill1_len bs k
  refine TC.seq ?_
  refine TC.region ?_
  refine TL.val rfl rfl rfl (Y.bin rfl rfl rfl (br_ltN (n := 16))) ?_
  refine TL.nil ?_
  refine TQ.next ?_
  refine TC.seq ?_
  refine TC.cond rfl (fun c0 => ?_) (fun c0 => ?_)
  · try simp only [decide_eq_true_eq, decide_eq_false_iff_not, Bool.not_eq_true', Bool.not_eq_false', Bool.and_eq_true, Bool.or_eq_true, Nat.not_lt, Nat.not_le, beq_iff_eq, bne_iff_ne] at c0
    refine TC.skip ?_
    refine TQ.next ?_
    refine TC.seq ?_
    refine TC.block ?_
    refine TC.seq ?_
    refine TC.region ?_
    refine TL.val rfl rfl rfl (Y.move rfl rfl) ?_
    refine TL.val rfl rfl rfl (Y.assign rfl rfl) ?_
    refine TL.nil ?_
    refine TQ.next ?_
    refine TC.draws 35 _ (by kernel_rfl) (by kernel_rfl) (fun _ h => h) ?_
    refine TA.take 0 rfl rfl rfl rfl (by kernel_rfl) (by kernel_rfl) (by kernel_rfl) rfl (by kernel_rfl) (by kernel_rfl) (fun _ _ _ h => h) (Y.move rfl rfl) ?_
    refine TA.take 1 rfl rfl rfl rfl (by kernel_rfl) (by kernel_rfl) (by kernel_rfl) rfl (by kernel_rfl) (by kernel_rfl) (fun _ _ _ h => h) (Y.move rfl rfl) ?_
    refine TA.take 2 rfl rfl rfl rfl (by kernel_rfl) (by kernel_rfl) (by kernel_rfl) rfl (by kernel_rfl) (by kernel_rfl) (fun _ _ _ h => h) (Y.move rfl rfl) ?_
    refine TA.take 3 rfl rfl rfl rfl (by kernel_rfl) (by kernel_rfl) (by kernel_rfl) rfl (by kernel_rfl) (by kernel_rfl) (fun _ _ _ h => h) (Y.bin rfl rfl rfl (br_mulN (m := 4) (by omega))) ?_
    refine TA.take 4 rfl rfl rfl rfl (by kernel_rfl) (by kernel_rfl) (by kernel_rfl) rfl (by kernel_rfl) (by kernel_rfl) (fun _ _ _ h => h) (by first | exact Y.indexSlB rfl sl30 rfl rfl (by omega) nqq | exact Y.indexSl rfl sl30 rfl rfl (by omega) nqq) ?_
    refine TA.take 5 rfl rfl rfl rfl (by kernel_rfl) (by kernel_rfl) (by kernel_rfl) rfl (by kernel_rfl) (by kernel_rfl) (fun _ _ _ h => h) (Y.load rfl sc5 rfl ceo8) ?_
    refine TA.take 6 rfl rfl rfl rfl (by kernel_rfl) (by kernel_rfl) (by kernel_rfl) rfl (by kernel_rfl) (by kernel_rfl) (fun _ _ _ h => h) (Y.conv rfl Try.underlying5 Try.underlying26 rfl (cv_8_32)) ?_
    refine TA.take 7 rfl rfl rfl rfl (by kernel_rfl) (by kernel_rfl) (by kernel_rfl) rfl (by kernel_rfl) (by kernel_rfl) (fun _ _ _ h => h) (Y.bin rfl rfl rfl (br_shl32 (n := 24))) ?_
    refine TA.take 8 rfl rfl rfl rfl (by kernel_rfl) (by kernel_rfl) (by kernel_rfl) rfl (by kernel_rfl) (by kernel_rfl) (fun _ _ _ h => h) (Y.move rfl rfl) ?_
    refine TA.take 9 rfl rfl rfl rfl (by kernel_rfl) (by kernel_rfl) (by kernel_rfl) rfl (by kernel_rfl) (by kernel_rfl) (fun _ _ _ h => h) (Y.move rfl rfl) ?_
    refine TA.take 10 rfl rfl rfl rfl (by kernel_rfl) (by kernel_rfl) (by kernel_rfl) rfl (by kernel_rfl) (by kernel_rfl) (fun _ _ _ h => h) (Y.bin rfl rfl rfl (br_mulN (m := 4) (by omega))) ?_
    refine TA.take 11 rfl rfl rfl rfl (by kernel_rfl) (by kernel_rfl) (by kernel_rfl) rfl (by kernel_rfl) (by kernel_rfl) (fun _ _ _ h => h) (Y.bin rfl rfl rfl (br_addN (n := 1) (by omega))) ?_
    refine TA.take 12 rfl rfl rfl rfl (by kernel_rfl) (by kernel_rfl) (by kernel_rfl) rfl (by kernel_rfl) (by kernel_rfl) (fun _ _ _ h => h) (by first | exact Y.indexSlB rfl sl30 rfl rfl (by omega) nqq | exact Y.indexSl rfl sl30 rfl rfl (by omega) nqq) ?_
    refine TA.take 13 rfl rfl rfl rfl (by kernel_rfl) (by kernel_rfl) (by kernel_rfl) rfl (by kernel_rfl) (by kernel_rfl) (fun _ _ _ h => h) (Y.load rfl sc5 rfl ceo8) ?_
    refine TA.take 14 rfl rfl rfl rfl (by kernel_rfl) (by kernel_rfl) (by kernel_rfl) rfl (by kernel_rfl) (by kernel_rfl) (fun _ _ _ h => h) (Y.conv rfl Try.underlying5 Try.underlying26 rfl (cv_8_32)) ?_
    refine TA.take 15 rfl rfl rfl rfl (by kernel_rfl) (by kernel_rfl) (by kernel_rfl) rfl (by kernel_rfl) (by kernel_rfl) (fun _ _ _ h => h) (Y.bin rfl rfl rfl (br_shl32 (n := 16))) ?_
    refine TA.take 16 rfl rfl rfl rfl (by kernel_rfl) (by kernel_rfl) (by kernel_rfl) rfl (by kernel_rfl) (by kernel_rfl) (fun _ _ _ h => h) (Y.bin rfl rfl rfl (br_or32)) ?_
    refine TA.take 17 rfl rfl rfl rfl (by kernel_rfl) (by kernel_rfl) (by kernel_rfl) rfl (by kernel_rfl) (by kernel_rfl) (fun _ _ _ h => h) (Y.move rfl rfl) ?_
    refine TA.take 18 rfl rfl rfl rfl (by kernel_rfl) (by kernel_rfl) (by kernel_rfl) rfl (by kernel_rfl) (by kernel_rfl) (fun _ _ _ h => h) (Y.move rfl rfl) ?_
    refine TA.take 19 rfl rfl rfl rfl (by kernel_rfl) (by kernel_rfl) (by kernel_rfl) rfl (by kernel_rfl) (by kernel_rfl) (fun _ _ _ h => h) (Y.bin rfl rfl rfl (br_mulN (m := 4) (by omega))) ?_
    refine TA.take 20 rfl rfl rfl rfl (by kernel_rfl) (by kernel_rfl) (by kernel_rfl) rfl (by kernel_rfl) (by kernel_rfl) (fun _ _ _ h => h) (Y.bin rfl rfl rfl (br_addN (n := 2) (by omega))) ?_
    refine TA.take 21 rfl rfl rfl rfl (by kernel_rfl) (by kernel_rfl) (by kernel_rfl) rfl (by kernel_rfl) (by kernel_rfl) (fun _ _ _ h => h) (by first | exact Y.indexSlB rfl sl30 rfl rfl (by omega) nqq | exact Y.indexSl rfl sl30 rfl rfl (by omega) nqq) ?_
    refine TA.take 22 rfl rfl rfl rfl (by kernel_rfl) (by kernel_rfl) (by kernel_rfl) rfl (by kernel_rfl) (by kernel_rfl) (fun _ _ _ h => h) (Y.load rfl sc5 rfl ceo8) ?_
    refine TA.take 23 rfl rfl rfl rfl (by kernel_rfl) (by kernel_rfl) (by kernel_rfl) rfl (by kernel_rfl) (by kernel_rfl) (fun _ _ _ h => h) (Y.conv rfl Try.underlying5 Try.underlying26 rfl (cv_8_32)) ?_
    refine TA.take 24 rfl rfl rfl rfl (by kernel_rfl) (by kernel_rfl) (by kernel_rfl) rfl (by kernel_rfl) (by kernel_rfl) (fun _ _ _ h => h) (Y.bin rfl rfl rfl (br_shl32 (n := 8))) ?_
    refine TA.take 25 rfl rfl rfl rfl (by kernel_rfl) (by kernel_rfl) (by kernel_rfl) rfl (by kernel_rfl) (by kernel_rfl) (fun _ _ _ h => h) (Y.bin rfl rfl rfl (br_or32)) ?_
    refine TA.take 26 rfl rfl rfl rfl (by kernel_rfl) (by kernel_rfl) (by kernel_rfl) rfl (by kernel_rfl) (by kernel_rfl) (fun _ _ _ h => h) (Y.move rfl rfl) ?_
    refine TA.take 27 rfl rfl rfl rfl (by kernel_rfl) (by kernel_rfl) (by kernel_rfl) rfl (by kernel_rfl) (by kernel_rfl) (fun _ _ _ h => h) (Y.move rfl rfl) ?_
    refine TA.take 28 rfl rfl rfl rfl (by kernel_rfl) (by kernel_rfl) (by kernel_rfl) rfl (by kernel_rfl) (by kernel_rfl) (fun _ _ _ h => h) (Y.bin rfl rfl rfl (br_mulN (m := 4) (by omega))) ?_
    refine TA.take 29 rfl rfl rfl rfl (by kernel_rfl) (by kernel_rfl) (by kernel_rfl) rfl (by kernel_rfl) (by kernel_rfl) (fun _ _ _ h => h) (Y.bin rfl rfl rfl (br_addN (n := 3) (by omega))) ?_
    refine TA.take 30 rfl rfl rfl rfl (by kernel_rfl) (by kernel_rfl) (by kernel_rfl) rfl (by kernel_rfl) (by kernel_rfl) (fun _ _ _ h => h) (by first | exact Y.indexSlB rfl sl30 rfl rfl (by omega) nqq | exact Y.indexSl rfl sl30 rfl rfl (by omega) nqq) ?_
    refine TA.take 31 rfl rfl rfl rfl (by kernel_rfl) (by kernel_rfl) (by kernel_rfl) rfl (by kernel_rfl) (by kernel_rfl) (fun _ _ _ h => h) (Y.load rfl sc5 rfl ceo8) ?_
    refine TA.take 32 rfl rfl rfl rfl (by kernel_rfl) (by kernel_rfl) (by kernel_rfl) rfl (by kernel_rfl) (by kernel_rfl) (fun _ _ _ h => h) (Y.conv rfl Try.underlying5 Try.underlying26 rfl (cv_8_32)) ?_
    refine TA.take 33 rfl rfl rfl rfl (by kernel_rfl) (by kernel_rfl) (by kernel_rfl) rfl (by kernel_rfl) (by kernel_rfl) (fun _ _ _ h => h) (Y.bin rfl rfl rfl (br_or32)) ?_
    refine TA.take 34 rfl rfl rfl rfl (by kernel_rfl) (by kernel_rfl) (by kernel_rfl) rfl (by kernel_rfl) (by kernel_rfl) (fun _ _ _ h => h) (Y.indexArr rfl ar123 rfl rfl (by omega) nqq) ?_
    refine TA.one0 35 (by kernel_rfl) rfl rfl rfl (by first | exact X.store rfl sz26 rfl rfl rfl pul lnn (by first | exact setM | rfl) | exact X.storeOwn rfl sz26 rfl (Nat.zero_add _).symm rfl rfl pul lnn (by first | exact setML | rfl) | exact X.storeOwn rfl sz26 rfl rfl rfl rfl pul lnn (by first | exact setML | rfl)) ?_
    rintro _ _ rfl
    refine ⟨(Or.inl (by kernel_rfl)), ?_⟩
    refine TA.done (by kernel_rfl) ?_
    refine TQ.block_normal ?_
    refine TQ.next ?_
    refine TC.region ?_
    refine TL.val rfl rfl rfl (Y.bin rfl rfl rfl (br_addN (n := 1) (by omega))) ?_
    refine TL.val rfl rfl rfl (Y.move rfl rfl) ?_
    refine TL.nil ?_
    refine TQ.loopF (k + 1) (by omega) (by omega) ⟨rfl, trivial⟩ (by (repeat first | apply Grow.refl | apply Grow.step | apply Grow.app)) ?_ ?_ ?_
    · kernel_rfl
    · rfl
    · simp only [List.cons_append, List.nil_append]
      exact ett
  · try simp only [decide_eq_true_eq, decide_eq_false_iff_not, Bool.not_eq_true', Bool.not_eq_false', Bool.and_eq_true, Bool.or_eq_true, Nat.not_lt, Nat.not_le, beq_iff_eq, bne_iff_ne] at c0
    refine TC.exit ?_
    refine TQ.then_exit ?_
    refine TQ.then_exit ?_
    refine TQ.block_exit ?_
    refine TQ.next ?_
    refine TC.seq ?_
    refine TC.seq ?_
    refine TC.region ?_
    refine TL.val rfl rfl rfl (Y.assign rfl rfl) ?_
    refine TL.nil ?_
    refine TQ.next ?_
    refine TC.block ?_
    obtain rfl : k = 16 := by omega
    refine TC.loopF (ι := Nat) [] (fun k => k ≤ 64) (fun k => [(6, some (vN (k + 16)))]) (fun k => [SA.blk b4 ((fill2 bs k).map v32).toArray 123]) (fun k => 64 - k) (0) (by omega) ⟨rfl, trivial⟩ (Pulls.cons pul Pulls.nil) ?_
    rintro k hk F' L' rfl hL'
    simp only [List.cons_append, List.nil_append] at hL'
    subst hL'
    have hw2 := fill2_len bs k
    refine TC.seq ?_
    refine TC.seq ?_
    refine TC.region ?_
    refine TL.val rfl rfl rfl (Y.move rfl rfl) ?_
    refine TL.val rfl rfl rfl (Y.bin rfl rfl rfl (br_ltN (n := 80))) ?_
    refine TL.nil ?_
    refine TQ.next ?_
    refine TC.cond rfl (fun c1 => ?_) (fun c1 => ?_)
    · try simp only [decide_eq_true_eq, decide_eq_false_iff_not, Bool.not_eq_true', Bool.not_eq_false', Bool.and_eq_true, Bool.or_eq_true, Nat.not_lt, Nat.not_le, beq_iff_eq, bne_iff_ne] at c1
      refine TC.skip ?_
      refine TQ.next ?_
      refine TC.seq ?_
      refine TC.block ?_
      refine TC.draws 22 _ (by kernel_rfl) (by kernel_rfl) (fun _ h => h) ?_
      refine TA.take 0 rfl rfl rfl rfl (by kernel_rfl) (by kernel_rfl) (by kernel_rfl) rfl (by kernel_rfl) (by kernel_rfl) (fun _ _ _ h => h) (Y.move rfl rfl) ?_
      refine TA.take 1 rfl rfl rfl rfl (by kernel_rfl) (by kernel_rfl) (by kernel_rfl) rfl (by kernel_rfl) (by kernel_rfl) (fun _ _ _ h => h) (Y.move rfl rfl) ?_
      refine TA.take 2 rfl rfl rfl rfl (by kernel_rfl) (by kernel_rfl) (by kernel_rfl) rfl (by kernel_rfl) (by kernel_rfl) (fun _ _ _ h => h) (Y.bin rfl rfl rfl (br_subN (n := 3) (by omega) (by omega))) ?_
      refine TA.take 3 rfl rfl rfl rfl (by kernel_rfl) (by kernel_rfl) (by kernel_rfl) rfl (by kernel_rfl) (by kernel_rfl) (fun _ _ _ h => h) (Y.indexArr rfl ar123 rfl rfl (by omega) nqq) ?_
      refine TA.take 4 rfl rfl rfl rfl (by kernel_rfl) (by kernel_rfl) (by kernel_rfl) rfl (by kernel_rfl) (by kernel_rfl) (fun _ _ _ h => h) (Y.load rfl sc26 rfl ceo32) ?_
      refine TA.take 5 rfl rfl rfl rfl (by kernel_rfl) (by kernel_rfl) (by kernel_rfl) rfl (by kernel_rfl) (by kernel_rfl) (fun _ _ _ h => h) (Y.move rfl rfl) ?_
      refine TA.take 6 rfl rfl rfl rfl (by kernel_rfl) (by kernel_rfl) (by kernel_rfl) rfl (by kernel_rfl) (by kernel_rfl) (fun _ _ _ h => h) (Y.bin rfl rfl rfl (br_subN (n := 8) (by omega) (by omega))) ?_
      refine TA.take 7 rfl rfl rfl rfl (by kernel_rfl) (by kernel_rfl) (by kernel_rfl) rfl (by kernel_rfl) (by kernel_rfl) (fun _ _ _ h => h) (Y.indexArr rfl ar123 rfl rfl (by omega) nqq) ?_
      refine TA.take 8 rfl rfl rfl rfl (by kernel_rfl) (by kernel_rfl) (by kernel_rfl) rfl (by kernel_rfl) (by kernel_rfl) (fun _ _ _ h => h) (Y.load rfl sc26 rfl ceo32) ?_
      refine TA.take 9 rfl rfl rfl rfl (by kernel_rfl) (by kernel_rfl) (by kernel_rfl) rfl (by kernel_rfl) (by kernel_rfl) (fun _ _ _ h => h) (Y.bin rfl rfl rfl (br_xor32)) ?_
      refine TA.take 10 rfl rfl rfl rfl (by kernel_rfl) (by kernel_rfl) (by kernel_rfl) rfl (by kernel_rfl) (by kernel_rfl) (fun _ _ _ h => h) (Y.move rfl rfl) ?_
      refine TA.take 11 rfl rfl rfl rfl (by kernel_rfl) (by kernel_rfl) (by kernel_rfl) rfl (by kernel_rfl) (by kernel_rfl) (fun _ _ _ h => h) (Y.bin rfl rfl rfl (br_subN (n := 14) (by omega) (by omega))) ?_
      refine TA.take 12 rfl rfl rfl rfl (by kernel_rfl) (by kernel_rfl) (by kernel_rfl) rfl (by kernel_rfl) (by kernel_rfl) (fun _ _ _ h => h) (Y.indexArr rfl ar123 rfl rfl (by omega) nqq) ?_
      refine TA.take 13 rfl rfl rfl rfl (by kernel_rfl) (by kernel_rfl) (by kernel_rfl) rfl (by kernel_rfl) (by kernel_rfl) (fun _ _ _ h => h) (Y.load rfl sc26 rfl ceo32) ?_
      refine TA.take 14 rfl rfl rfl rfl (by kernel_rfl) (by kernel_rfl) (by kernel_rfl) rfl (by kernel_rfl) (by kernel_rfl) (fun _ _ _ h => h) (Y.bin rfl rfl rfl (br_xor32)) ?_
      refine TA.take 15 rfl rfl rfl rfl (by kernel_rfl) (by kernel_rfl) (by kernel_rfl) rfl (by kernel_rfl) (by kernel_rfl) (fun _ _ _ h => h) (Y.move rfl rfl) ?_
      refine TA.take 16 rfl rfl rfl rfl (by kernel_rfl) (by kernel_rfl) (by kernel_rfl) rfl (by kernel_rfl) (by kernel_rfl) (fun _ _ _ h => h) (Y.bin rfl rfl rfl (br_subN (n := 16) (by omega) (by omega))) ?_
      refine TA.take 17 rfl rfl rfl rfl (by kernel_rfl) (by kernel_rfl) (by kernel_rfl) rfl (by kernel_rfl) (by kernel_rfl) (fun _ _ _ h => h) (Y.indexArr rfl ar123 rfl rfl (by omega) nqq) ?_
      refine TA.take 18 rfl rfl rfl rfl (by kernel_rfl) (by kernel_rfl) (by kernel_rfl) rfl (by kernel_rfl) (by kernel_rfl) (fun _ _ _ h => h) (Y.load rfl sc26 rfl ceo32) ?_
      refine TA.take 19 rfl rfl rfl rfl (by kernel_rfl) (by kernel_rfl) (by kernel_rfl) rfl (by kernel_rfl) (by kernel_rfl) (fun _ _ _ h => h) (Y.bin rfl rfl rfl (br_xor32)) ?_
      refine TA.one 20 (by kernel_rfl) rfl rfl rfl rfl (X.call rfl Try.func67 (by kernel_rfl) rfl rfl (bits_fn _ 1 (by decide) _)) ?_
      rintro _ _ ⟨rfl, rfl⟩
      refine ⟨(Or.inr (fun w h A hA => h A (by with_reducible (first | assumption | (repeat first | exact In.there hA | apply In.there))))), ?_⟩
      refine TA.take 21 rfl rfl rfl rfl (by kernel_rfl) (by kernel_rfl) (by kernel_rfl) rfl (by kernel_rfl) (by kernel_rfl) (fun _ _ _ h => h) (Y.indexArr rfl ar123 rfl rfl (by omega) nqq) ?_
      refine TA.one0 22 (by kernel_rfl) rfl rfl rfl (by first | exact X.store rfl sz26 rfl rfl rfl pul lnn (by first | exact setM | rfl) | exact X.storeOwn rfl sz26 rfl (Nat.zero_add _).symm rfl rfl pul lnn (by first | exact setML | rfl) | exact X.storeOwn rfl sz26 rfl rfl rfl rfl pul lnn (by first | exact setML | rfl)) ?_
      rintro _ _ rfl
      refine ⟨(Or.inl (by kernel_rfl)), ?_⟩
      refine TA.done (by kernel_rfl) ?_
      refine TQ.block_normal ?_
      refine TQ.next ?_
      refine TC.region ?_
      refine TL.val rfl rfl rfl (Y.move rfl rfl) ?_
      refine TL.val rfl rfl rfl (Y.bin rfl rfl rfl (br_addN (n := 1) (by omega))) ?_
      refine TL.val rfl rfl rfl (Y.assign rfl rfl) ?_
      refine TL.nil ?_
      refine TQ.loopF (k + 1) (by omega) (by omega) ⟨rfl, trivial⟩ (by (repeat first | apply Grow.refl | apply Grow.step | apply Grow.app)) ?_ ?_ ?_
      · kernel_rfl
      · rfl
      · simp only [List.cons_append, List.nil_append]
        exact ett
    · try simp only [decide_eq_true_eq, decide_eq_false_iff_not, Bool.not_eq_true', Bool.not_eq_false', Bool.and_eq_true, Bool.or_eq_true, Nat.not_lt, Nat.not_le, beq_iff_eq, bne_iff_ne] at c1
      refine TC.exit ?_
      refine TQ.then_exit ?_
      refine TQ.then_exit ?_
      refine TQ.block_exit ?_
      refine TQ.next ?_
      refine TC.seq ?_
      refine TC.draws 25 _ (by kernel_rfl) (by kernel_rfl) (fun _ h => h) ?_
      refine TA.take 0 rfl rfl rfl rfl (by kernel_rfl) (by kernel_rfl) (by kernel_rfl) rfl (by kernel_rfl) (by kernel_rfl) (fun _ _ _ h => h) (Y.move rfl rfl) ?_
      refine TA.take 1 rfl rfl rfl rfl (by kernel_rfl) (by kernel_rfl) (by kernel_rfl) rfl (by kernel_rfl) (by kernel_rfl) (fun _ _ _ h => h) (Y.nilCheck rfl rfl) ?_
      refine TA.take 2 rfl rfl rfl rfl (by kernel_rfl) (by kernel_rfl) (by kernel_rfl) rfl (by kernel_rfl) (by kernel_rfl) (fun _ _ _ h => h) (Y.indexArr (j := 0) rfl ar121 rfl rfl (by omega) nqq) ?_
      refine TA.take 3 rfl rfl rfl rfl (by kernel_rfl) (by kernel_rfl) (by kernel_rfl) rfl (by kernel_rfl) (by kernel_rfl) (fun _ _ _ h => h) (Y.load rfl sc26 rfl ceo32) ?_
      refine TA.take 4 rfl rfl rfl rfl (by kernel_rfl) (by kernel_rfl) (by kernel_rfl) rfl (by kernel_rfl) (by kernel_rfl) (fun _ _ _ h => h) (Y.move rfl rfl) ?_
      refine TA.take 5 rfl rfl rfl rfl (by kernel_rfl) (by kernel_rfl) (by kernel_rfl) rfl (by kernel_rfl) (by kernel_rfl) (fun _ _ _ h => h) (Y.nilCheck rfl rfl) ?_
      refine TA.take 6 rfl rfl rfl rfl (by kernel_rfl) (by kernel_rfl) (by kernel_rfl) rfl (by kernel_rfl) (by kernel_rfl) (fun _ _ _ h => h) (Y.indexArr (j := 1) rfl ar121 rfl rfl (by omega) nqq) ?_
      refine TA.take 7 rfl rfl rfl rfl (by kernel_rfl) (by kernel_rfl) (by kernel_rfl) rfl (by kernel_rfl) (by kernel_rfl) (fun _ _ _ h => h) (Y.load rfl sc26 rfl ceo32) ?_
      refine TA.take 8 rfl rfl rfl rfl (by kernel_rfl) (by kernel_rfl) (by kernel_rfl) rfl (by kernel_rfl) (by kernel_rfl) (fun _ _ _ h => h) (Y.move rfl rfl) ?_
      refine TA.take 9 rfl rfl rfl rfl (by kernel_rfl) (by kernel_rfl) (by kernel_rfl) rfl (by kernel_rfl) (by kernel_rfl) (fun _ _ _ h => h) (Y.nilCheck rfl rfl) ?_
      refine TA.take 10 rfl rfl rfl rfl (by kernel_rfl) (by kernel_rfl) (by kernel_rfl) rfl (by kernel_rfl) (by kernel_rfl) (fun _ _ _ h => h) (Y.indexArr (j := 2) rfl ar121 rfl rfl (by omega) nqq) ?_
      refine TA.take 11 rfl rfl rfl rfl (by kernel_rfl) (by kernel_rfl) (by kernel_rfl) rfl (by kernel_rfl) (by kernel_rfl) (fun _ _ _ h => h) (Y.load rfl sc26 rfl ceo32) ?_
      refine TA.take 12 rfl rfl rfl rfl (by kernel_rfl) (by kernel_rfl) (by kernel_rfl) rfl (by kernel_rfl) (by kernel_rfl) (fun _ _ _ h => h) (Y.move rfl rfl) ?_
      refine TA.take 13 rfl rfl rfl rfl (by kernel_rfl) (by kernel_rfl) (by kernel_rfl) rfl (by kernel_rfl) (by kernel_rfl) (fun _ _ _ h => h) (Y.nilCheck rfl rfl) ?_
      refine TA.take 14 rfl rfl rfl rfl (by kernel_rfl) (by kernel_rfl) (by kernel_rfl) rfl (by kernel_rfl) (by kernel_rfl) (fun _ _ _ h => h) (Y.indexArr (j := 3) rfl ar121 rfl rfl (by omega) nqq) ?_
      refine TA.take 15 rfl rfl rfl rfl (by kernel_rfl) (by kernel_rfl) (by kernel_rfl) rfl (by kernel_rfl) (by kernel_rfl) (fun _ _ _ h => h) (Y.load rfl sc26 rfl ceo32) ?_
      refine TA.take 16 rfl rfl rfl rfl (by kernel_rfl) (by kernel_rfl) (by kernel_rfl) rfl (by kernel_rfl) (by kernel_rfl) (fun _ _ _ h => h) (Y.move rfl rfl) ?_
      refine TA.take 17 rfl rfl rfl rfl (by kernel_rfl) (by kernel_rfl) (by kernel_rfl) rfl (by kernel_rfl) (by kernel_rfl) (fun _ _ _ h => h) (Y.nilCheck rfl rfl) ?_
      refine TA.take 18 rfl rfl rfl rfl (by kernel_rfl) (by kernel_rfl) (by kernel_rfl) rfl (by kernel_rfl) (by kernel_rfl) (fun _ _ _ h => h) (Y.indexArr (j := 4) rfl ar121 rfl rfl (by omega) nqq) ?_
      refine TA.take 19 rfl rfl rfl rfl (by kernel_rfl) (by kernel_rfl) (by kernel_rfl) rfl (by kernel_rfl) (by kernel_rfl) (fun _ _ _ h => h) (Y.load rfl sc26 rfl ceo32) ?_
      refine TA.take 20 rfl rfl rfl rfl (by kernel_rfl) (by kernel_rfl) (by kernel_rfl) rfl (by kernel_rfl) (by kernel_rfl) (fun _ _ _ h => h) (Y.assign rfl rfl) ?_
      refine TA.take 21 rfl rfl rfl rfl (by kernel_rfl) (by kernel_rfl) (by kernel_rfl) rfl (by kernel_rfl) (by kernel_rfl) (fun _ _ _ h => h) (Y.assign rfl rfl) ?_
      refine TA.take 22 rfl rfl rfl rfl (by kernel_rfl) (by kernel_rfl) (by kernel_rfl) rfl (by kernel_rfl) (by kernel_rfl) (fun _ _ _ h => h) (Y.assign rfl rfl) ?_
      refine TA.take 23 rfl rfl rfl rfl (by kernel_rfl) (by kernel_rfl) (by kernel_rfl) rfl (by kernel_rfl) (by kernel_rfl) (fun _ _ _ h => h) (Y.assign rfl rfl) ?_
      refine TA.take 24 rfl rfl rfl rfl (by kernel_rfl) (by kernel_rfl) (by kernel_rfl) rfl (by kernel_rfl) (by kernel_rfl) (fun _ _ _ h => h) (Y.assign rfl rfl) ?_
      refine TA.done (by kernel_rfl) ?_
      refine TQ.next ?_
      refine TC.seq ?_
      refine TC.seq ?_
      refine TC.region ?_
      refine TL.val rfl rfl rfl (Y.loadAgg rfl ag123 rfl (Cels.full inn) (by ((try simp only [List.length_map, List.length_set, List.length_replicate]); omega))) ?_
      refine TL.val rfl rfl rfl (Y.move rfl rfl) ?_
      refine TL.nil ?_
      refine TQ.next ?_
      refine TC.block ?_
      obtain rfl : k = 64 := by omega
      refine TC.loopF (ι := Nat) [] (fun k => k ≤ 80) (fun k => [(104, some (vN k)), (7, some (v32 (rounds (fill2 bs 64) (s5 hs) k).a)), (8, some (v32 (rounds (fill2 bs 64) (s5 hs) k).b)), (9, some (v32 (rounds (fill2 bs 64) (s5 hs) k).c)), (10, some (v32 (rounds (fill2 bs 64) (s5 hs) k).d)), (11, some (v32 (rounds (fill2 bs 64) (s5 hs) k).e))]) (fun k => []) (fun k => 80 - k) (0) (by omega) ⟨rfl, rfl, rfl, rfl, rfl, rfl, trivial⟩ Pulls.nil ?_
      rintro k hk F' L' rfl hL'
      simp only [List.cons_append, List.nil_append] at hL'
      subst hL'
      refine TC.seq ?_
      refine TC.region ?_
      refine TL.val rfl rfl rfl (Y.bin rfl rfl rfl (br_ltN (n := 80))) ?_
      refine TL.nil ?_
      refine TQ.next ?_
      refine TC.seq ?_
      refine TC.cond rfl (fun c2 => ?_) (fun c2 => ?_)
      · try simp only [decide_eq_true_eq, decide_eq_false_iff_not, Bool.not_eq_true', Bool.not_eq_false', Bool.and_eq_true, Bool.or_eq_true, Nat.not_lt, Nat.not_le, beq_iff_eq, bne_iff_ne] at c2
        refine TC.skip ?_
        refine TQ.next ?_
        refine TC.seq ?_
        refine TC.block ?_
        refine TC.seq ?_
        refine TC.region ?_
        refine TL.val rfl rfl rfl (Y.move rfl rfl) ?_
        refine TL.val rfl rfl rfl (Y.indexAgg rfl Try.underlying123 sc26 sz26 rfl rfl (by omega) (by first | exact getM (d := (0 : UInt32)) lnn | rfl)) ?_
        refine TL.val rfl rfl rfl (Y.assign rfl rfl) ?_
        refine TL.val rfl rfl rfl (Y.assign rfl rfl) ?_
        refine TL.nil ?_
        refine TQ.next ?_
        refine TC.seq ?_
        refine TC.region ?_
        refine TL.val rfl rfl rfl (Y.assign rfl rfl) ?_
        refine TL.val rfl rfl rfl (Y.assign rfl rfl) ?_
        refine TL.nil ?_
        refine TQ.next ?_
        refine TC.cutF (ι := Unit) [] (fun _ => True) (fun _ => [(14, some (v32 (ff (k / 20) (rounds (fill2 bs 64) (s5 hs) k).b (rounds (fill2 bs 64) (s5 hs) k).c (rounds (fill2 bs 64) (s5 hs) k).d))), (15, some (v32 (kk (k / 20))))]) (fun _ => []) (Ao := []) Pulls.nil ?_ ?_
        · rintro L' hL'
          simp only [List.cons_append, List.nil_append] at hL'
          subst hL'
          refine TC.seq ?_
          refine TC.region ?_
          refine TL.val rfl rfl rfl (Y.move rfl rfl) ?_
          refine TL.val rfl rfl rfl (Y.bin rfl rfl rfl (br_quoN (n := 20) (by omega) (by omega))) ?_
          refine TL.nil ?_
          refine TQ.next ?_
          refine TC.block ?_
          refine TC.seq ?_
          refine TC.region ?_
          refine TL.val rfl rfl rfl (Y.bin rfl rfl rfl (br_eqN (n := 0))) ?_
          refine TL.val rfl rfl rfl (Y.assign rfl rfl) ?_
          refine TL.nil ?_
          refine TQ.next ?_
          refine TC.cond rfl (fun c3 => ?_) (fun c3 => ?_)
          · try simp only [decide_eq_true_eq, decide_eq_false_iff_not, Bool.not_eq_true', Bool.not_eq_false', Bool.and_eq_true, Bool.or_eq_true, Nat.not_lt, Nat.not_le, beq_iff_eq, bne_iff_ne] at c3
            refine TC.region ?_
            refine TL.val rfl rfl rfl (Y.move rfl rfl) ?_
            refine TL.val rfl rfl rfl (Y.move rfl rfl) ?_
            refine TL.val rfl rfl rfl (Y.move rfl rfl) ?_
            refine TL.val rfl rfl rfl (Y.move rfl rfl) ?_
            refine TL.val rfl rfl rfl (Y.bin rfl rfl rfl (br_xor32)) ?_
            refine TL.val rfl rfl rfl (Y.bin rfl rfl rfl (br_and32)) ?_
            refine TL.val rfl rfl rfl (Y.bin rfl rfl rfl (br_xor32)) ?_
            refine TL.val rfl rfl rfl (Y.assign rfl rfl) ?_
            refine TL.val rfl rfl rfl (Y.assign rfl rfl) ?_
            refine TL.nil ?_
            refine TQ.block_normal ?_
            refine TQ.meetF (()) (trivial) (by first | exact ⟨by rw [ff_0 c3]; rfl, by rw [kk_0 c3]; rfl, trivial⟩ | exact ⟨by rw [ff_1 c4]; rfl, by rw [kk_1 c4]; rfl, trivial⟩ | exact ⟨by rw [ff_2 c5]; rfl, by rw [kk_2 c5]; rfl, trivial⟩ | exact ⟨by rw [ff_3 c3 c4 c5]; rfl, by rw [kk_3 c3 c4 c5]; rfl, trivial⟩) (by (repeat first | apply Grow.refl | apply Grow.step | apply Grow.app)) ?_ ?_
            · kernel_rfl
            · simp only [List.cons_append, List.nil_append]
              exact ett
          · try simp only [decide_eq_true_eq, decide_eq_false_iff_not, Bool.not_eq_true', Bool.not_eq_false', Bool.and_eq_true, Bool.or_eq_true, Nat.not_lt, Nat.not_le, beq_iff_eq, bne_iff_ne] at c3
            refine TC.seq ?_
            refine TC.region ?_
            refine TL.val rfl rfl rfl (Y.bin rfl rfl rfl (br_eqN (n := 1))) ?_
            refine TL.val rfl rfl rfl (Y.assign rfl rfl) ?_
            refine TL.nil ?_
            refine TQ.next ?_
            refine TC.cond rfl (fun c4 => ?_) (fun c4 => ?_)
            · try simp only [decide_eq_true_eq, decide_eq_false_iff_not, Bool.not_eq_true', Bool.not_eq_false', Bool.and_eq_true, Bool.or_eq_true, Nat.not_lt, Nat.not_le, beq_iff_eq, bne_iff_ne] at c4
              refine TC.region ?_
              refine TL.val rfl rfl rfl (Y.move rfl rfl) ?_
              refine TL.val rfl rfl rfl (Y.move rfl rfl) ?_
              refine TL.val rfl rfl rfl (Y.bin rfl rfl rfl (br_xor32)) ?_
              refine TL.val rfl rfl rfl (Y.move rfl rfl) ?_
              refine TL.val rfl rfl rfl (Y.bin rfl rfl rfl (br_xor32)) ?_
              refine TL.val rfl rfl rfl (Y.assign rfl rfl) ?_
              refine TL.val rfl rfl rfl (Y.assign rfl rfl) ?_
              refine TL.nil ?_
              refine TQ.block_normal ?_
              refine TQ.meetF (()) (trivial) (by first | exact ⟨by rw [ff_0 c3]; rfl, by rw [kk_0 c3]; rfl, trivial⟩ | exact ⟨by rw [ff_1 c4]; rfl, by rw [kk_1 c4]; rfl, trivial⟩ | exact ⟨by rw [ff_2 c5]; rfl, by rw [kk_2 c5]; rfl, trivial⟩ | exact ⟨by rw [ff_3 c3 c4 c5]; rfl, by rw [kk_3 c3 c4 c5]; rfl, trivial⟩) (by (repeat first | apply Grow.refl | apply Grow.step | apply Grow.app)) ?_ ?_
              · kernel_rfl
              · simp only [List.cons_append, List.nil_append]
                exact ett
            · try simp only [decide_eq_true_eq, decide_eq_false_iff_not, Bool.not_eq_true', Bool.not_eq_false', Bool.and_eq_true, Bool.or_eq_true, Nat.not_lt, Nat.not_le, beq_iff_eq, bne_iff_ne] at c4
              refine TC.seq ?_
              refine TC.region ?_
              refine TL.val rfl rfl rfl (Y.bin rfl rfl rfl (br_eqN (n := 2))) ?_
              refine TL.val rfl rfl rfl (Y.assign rfl rfl) ?_
              refine TL.nil ?_
              refine TQ.next ?_
              refine TC.cond rfl (fun c5 => ?_) (fun c5 => ?_)
              · try simp only [decide_eq_true_eq, decide_eq_false_iff_not, Bool.not_eq_true', Bool.not_eq_false', Bool.and_eq_true, Bool.or_eq_true, Nat.not_lt, Nat.not_le, beq_iff_eq, bne_iff_ne] at c5
                refine TC.region ?_
                refine TL.val rfl rfl rfl (Y.move rfl rfl) ?_
                refine TL.val rfl rfl rfl (Y.move rfl rfl) ?_
                refine TL.val rfl rfl rfl (Y.bin rfl rfl rfl (br_and32)) ?_
                refine TL.val rfl rfl rfl (Y.move rfl rfl) ?_
                refine TL.val rfl rfl rfl (Y.move rfl rfl) ?_
                refine TL.val rfl rfl rfl (Y.move rfl rfl) ?_
                refine TL.val rfl rfl rfl (Y.bin rfl rfl rfl (br_or32)) ?_
                refine TL.val rfl rfl rfl (Y.bin rfl rfl rfl (br_and32)) ?_
                refine TL.val rfl rfl rfl (Y.bin rfl rfl rfl (br_or32)) ?_
                refine TL.val rfl rfl rfl (Y.assign rfl rfl) ?_
                refine TL.val rfl rfl rfl (Y.assign rfl rfl) ?_
                refine TL.nil ?_
                refine TQ.block_normal ?_
                refine TQ.meetF (()) (trivial) (by first | exact ⟨by rw [ff_0 c3]; rfl, by rw [kk_0 c3]; rfl, trivial⟩ | exact ⟨by rw [ff_1 c4]; rfl, by rw [kk_1 c4]; rfl, trivial⟩ | exact ⟨by rw [ff_2 c5]; rfl, by rw [kk_2 c5]; rfl, trivial⟩ | exact ⟨by rw [ff_3 c3 c4 c5]; rfl, by rw [kk_3 c3 c4 c5]; rfl, trivial⟩) (by (repeat first | apply Grow.refl | apply Grow.step | apply Grow.app)) ?_ ?_
                · kernel_rfl
                · simp only [List.cons_append, List.nil_append]
                  exact ett
              · try simp only [decide_eq_true_eq, decide_eq_false_iff_not, Bool.not_eq_true', Bool.not_eq_false', Bool.and_eq_true, Bool.or_eq_true, Nat.not_lt, Nat.not_le, beq_iff_eq, bne_iff_ne] at c5
                refine TC.region ?_
                refine TL.val rfl rfl rfl (Y.move rfl rfl) ?_
                refine TL.val rfl rfl rfl (Y.move rfl rfl) ?_
                refine TL.val rfl rfl rfl (Y.bin rfl rfl rfl (br_xor32)) ?_
                refine TL.val rfl rfl rfl (Y.move rfl rfl) ?_
                refine TL.val rfl rfl rfl (Y.bin rfl rfl rfl (br_xor32)) ?_
                refine TL.val rfl rfl rfl (Y.assign rfl rfl) ?_
                refine TL.val rfl rfl rfl (Y.assign rfl rfl) ?_
                refine TL.nil ?_
                refine TQ.block_normal ?_
                refine TQ.meetF (()) (trivial) (by first | exact ⟨by rw [ff_0 c3]; rfl, by rw [kk_0 c3]; rfl, trivial⟩ | exact ⟨by rw [ff_1 c4]; rfl, by rw [kk_1 c4]; rfl, trivial⟩ | exact ⟨by rw [ff_2 c5]; rfl, by rw [kk_2 c5]; rfl, trivial⟩ | exact ⟨by rw [ff_3 c3 c4 c5]; rfl, by rw [kk_3 c3 c4 c5]; rfl, trivial⟩) (by (repeat first | apply Grow.refl | apply Grow.step | apply Grow.app)) ?_ ?_
                · kernel_rfl
                · simp only [List.cons_append, List.nil_append]
                  exact ett
        · rintro ⟨⟩ - F' L' rfl hL'
          simp only [List.cons_append, List.nil_append] at hL'
          subst hL'
          refine TC.region ?_
          refine TL.val rfl rfl rfl (Y.move rfl rfl) ?_
          refine TL.eff rfl rfl rfl (X.call rfl Try.func67 (by kernel_rfl) rfl rfl (bits_fn _ 5 (by decide) _)) ?_
          rintro _ _ ⟨rfl, rfl⟩
          refine TL.val rfl rfl rfl (Y.move rfl rfl) ?_
          refine TL.val rfl rfl rfl (Y.bin rfl rfl rfl (br_add32)) ?_
          refine TL.val rfl rfl rfl (Y.move rfl rfl) ?_
          refine TL.val rfl rfl rfl (Y.bin rfl rfl rfl (br_add32)) ?_
          refine TL.val rfl rfl rfl (Y.move rfl rfl) ?_
          refine TL.val rfl rfl rfl (Y.bin rfl rfl rfl (br_add32)) ?_
          refine TL.val rfl rfl rfl (Y.move rfl rfl) ?_
          refine TL.val rfl rfl rfl (Y.bin rfl rfl rfl (br_add32)) ?_
          refine TL.val rfl rfl rfl (Y.move rfl rfl) ?_
          refine TL.val rfl rfl rfl (Y.move rfl rfl) ?_
          refine TL.eff rfl rfl rfl (X.call rfl Try.func67 (by kernel_rfl) rfl rfl (bits_fn _ 30 (by decide) _)) ?_
          rintro _ _ ⟨rfl, rfl⟩
          refine TL.val rfl rfl rfl (Y.move rfl rfl) ?_
          refine TL.val rfl rfl rfl (Y.move rfl rfl) ?_
          refine TL.val rfl rfl rfl (Y.assign rfl rfl) ?_
          refine TL.val rfl rfl rfl (Y.assign rfl rfl) ?_
          refine TL.val rfl rfl rfl (Y.assign rfl rfl) ?_
          refine TL.val rfl rfl rfl (Y.assign rfl rfl) ?_
          refine TL.val rfl rfl rfl (Y.assign rfl rfl) ?_
          refine TL.nil ?_
          refine TQ.block_normal ?_
          refine TQ.next ?_
          refine TC.region ?_
          refine TL.val rfl rfl rfl (Y.bin rfl rfl rfl (br_addN (n := 1) (by omega))) ?_
          refine TL.val rfl rfl rfl (Y.move rfl rfl) ?_
          refine TL.nil ?_
          refine TQ.loopF (k + 1) (by omega) (by omega) ⟨rfl, rfl, rfl, rfl, rfl, rfl, trivial⟩ (by (repeat first | apply Grow.refl | apply Grow.step | apply Grow.app)) ?_ ?_ ?_
          · kernel_rfl
          · rfl
          · simp only [List.cons_append, List.nil_append]
            exact ett
      · try simp only [decide_eq_true_eq, decide_eq_false_iff_not, Bool.not_eq_true', Bool.not_eq_false', Bool.and_eq_true, Bool.or_eq_true, Nat.not_lt, Nat.not_le, beq_iff_eq, bne_iff_ne] at c2
        refine TC.exit ?_
        refine TQ.then_exit ?_
        refine TQ.then_exit ?_
        refine TQ.block_exit ?_
        refine TQ.next ?_
        refine TC.seq ?_
        refine TC.region ?_
        refine TL.val rfl rfl rfl (Y.move rfl rfl) ?_
        refine TL.val rfl rfl rfl (Y.move rfl rfl) ?_
        refine TL.val rfl rfl rfl (Y.move rfl rfl) ?_
        refine TL.val rfl rfl rfl (Y.move rfl rfl) ?_
        refine TL.val rfl rfl rfl (Y.move rfl rfl) ?_
        refine TL.val rfl rfl rfl (Y.buildM rfl rfl Try.underlying120 sz26 zc120 rfl rfl rfl (by first | exact (by simp only [List.all_cons, List.all_nil, Value.oneCell', Bool.and_self]) | rfl)) ?_
        refine TL.val rfl rfl rfl (Y.move rfl rfl) ?_
        refine TL.nil ?_
        refine TQ.next ?_
        refine TC.block ?_
        obtain rfl : k = 80 := by omega
        refine TC.loopF (ι := Nat) [] (fun k => k ≤ 5) (fun k => [(164, some (vN k))]) (fun k => [SA.blk hb ((adds hs (rounds (fill2 bs 64) (s5 hs) 80).list k).map v32).toArray T]) (fun k => 5 - k) (0) (by omega) ⟨rfl, trivial⟩ (Pulls.cons pul Pulls.nil) ?_
        rintro k hk F' L' rfl hL'
        simp only [List.cons_append, List.nil_append] at hL'
        subst hL'
        have hw7 := adds_len hs (rounds (fill2 bs 64) (s5 hs) 80).list k
        refine TC.seq ?_
        refine TC.region ?_
        refine TL.val rfl rfl rfl (Y.bin rfl rfl rfl (br_ltN (n := 5))) ?_
        refine TL.nil ?_
        refine TQ.next ?_
        refine TC.seq ?_
        refine TC.cond rfl (fun c6 => ?_) (fun c6 => ?_)
        · try simp only [decide_eq_true_eq, decide_eq_false_iff_not, Bool.not_eq_true', Bool.not_eq_false', Bool.and_eq_true, Bool.or_eq_true, Nat.not_lt, Nat.not_le, beq_iff_eq, bne_iff_ne] at c6
          refine TC.skip ?_
          refine TQ.next ?_
          refine TC.seq ?_
          refine TC.block ?_
          refine TC.seq ?_
          refine TC.region ?_
          refine TL.val rfl rfl rfl (Y.move rfl rfl) ?_
          refine TL.val rfl rfl rfl (Y.indexAgg rfl Try.underlying120 sc26 sz26 rfl rfl (by omega) (getM (l := (rounds (fill2 bs 64) (s5 hs) 80).list) (d := 0) (by simp [S5.list]; omega))) ?_
          refine TL.val rfl rfl rfl (Y.assign rfl rfl) ?_
          refine TL.val rfl rfl rfl (Y.assign rfl rfl) ?_
          refine TL.nil ?_
          refine TQ.next ?_
          refine TC.draws 9 _ (by kernel_rfl) (by kernel_rfl) (fun _ h => h) ?_
          refine TA.take 0 rfl rfl rfl rfl (by kernel_rfl) (by kernel_rfl) (by kernel_rfl) rfl (by kernel_rfl) (by kernel_rfl) (fun _ _ _ h => h) (Y.move rfl rfl) ?_
          refine TA.take 1 rfl rfl rfl rfl (by kernel_rfl) (by kernel_rfl) (by kernel_rfl) rfl (by kernel_rfl) (by kernel_rfl) (fun _ _ _ h => h) (Y.move rfl rfl) ?_
          refine TA.take 2 rfl rfl rfl rfl (by kernel_rfl) (by kernel_rfl) (by kernel_rfl) rfl (by kernel_rfl) (by kernel_rfl) (fun _ _ _ h => h) (Y.nilCheck rfl rfl) ?_
          refine TA.take 3 rfl rfl rfl rfl (by kernel_rfl) (by kernel_rfl) (by kernel_rfl) rfl (by kernel_rfl) (by kernel_rfl) (fun _ _ _ h => h) (Y.indexArr rfl ar121 rfl rfl (by omega) nqq) ?_
          refine TA.take 4 rfl rfl rfl rfl (by kernel_rfl) (by kernel_rfl) (by kernel_rfl) rfl (by kernel_rfl) (by kernel_rfl) (fun _ _ _ h => h) (Y.load rfl sc26 rfl ceo32) ?_
          refine TA.take 5 rfl rfl rfl rfl (by kernel_rfl) (by kernel_rfl) (by kernel_rfl) rfl (by kernel_rfl) (by kernel_rfl) (fun _ _ _ h => h) (Y.move rfl rfl) ?_
          refine TA.take 6 rfl rfl rfl rfl (by kernel_rfl) (by kernel_rfl) (by kernel_rfl) rfl (by kernel_rfl) (by kernel_rfl) (fun _ _ _ h => h) (Y.bin rfl rfl rfl (br_add32)) ?_
          refine TA.takeP 7 rfl rfl rfl rfl (by kernel_rfl) (by kernel_rfl) (by kernel_rfl) rfl (fun _ _ _ h => h) (Y.nilCheck rfl rfl) ?_
          refine TA.take 8 rfl rfl rfl rfl (by kernel_rfl) (by kernel_rfl) (by kernel_rfl) rfl (by kernel_rfl) (by kernel_rfl) (fun _ _ _ h => h) (Y.indexArr rfl ar121 rfl rfl (by omega) nqq) ?_
          refine TA.one0 9 (by kernel_rfl) rfl rfl rfl (by first | exact X.store rfl sz26 rfl rfl rfl pul lnn (by first | exact setM | rfl) | exact X.storeOwn rfl sz26 rfl (Nat.zero_add _).symm rfl rfl pul lnn (by first | exact setML | rfl) | exact X.storeOwn rfl sz26 rfl rfl rfl rfl pul lnn (by first | exact setML | rfl)) ?_
          rintro _ _ rfl
          refine ⟨(Or.inl (by kernel_rfl)), ?_⟩
          refine TA.done (by kernel_rfl) ?_
          refine TQ.block_normal ?_
          refine TQ.next ?_
          refine TC.region ?_
          refine TL.val rfl rfl rfl (Y.bin rfl rfl rfl (br_addN (n := 1) (by omega))) ?_
          refine TL.val rfl rfl rfl (Y.move rfl rfl) ?_
          refine TL.nil ?_
          refine TQ.loopF (k + 1) (by omega) (by omega) ⟨rfl, trivial⟩ (by (repeat first | apply Grow.refl | apply Grow.step | apply Grow.app)) ?_ ?_ ?_
          · kernel_rfl
          · rfl
          · simp only [List.cons_append, List.nil_append]
            exact ett
        · try simp only [decide_eq_true_eq, decide_eq_false_iff_not, Bool.not_eq_true', Bool.not_eq_false', Bool.and_eq_true, Bool.or_eq_true, Nat.not_lt, Nat.not_le, beq_iff_eq, bne_iff_ne] at c6
          refine TC.exit ?_
          refine TQ.then_exit ?_
          refine TQ.then_exit ?_
          refine TQ.block_exit ?_
          obtain rfl : k = 5 := by omega
          refine TQ.endE (res0 rfl) (⟨rfl, rfl⟩) ?_
          exact ett
end sha
end Go.Proofs.Ytpmplnkempcmjaa

/- SHA-1 as plain functions: blocks one by one, padding. -/
namespace Go.Proofs.Ytpmplnkempcmjaa
set_option linter.unusedVariables false
set_option linter.unusedSimpArgs false
open Go.RowKit
namespace sha

theorem word_congr {x y : List UInt8} (h : ∀ i, i < 64 → x.getD i 0 = y.getD i 0) {k : Nat} (hk : k < 16) : word x k = word y k := by
  simp only [word]
  rw [h _ (by omega), h _ (by omega), h _ (by omega), h _ (by omega)]
theorem fill1_congr {x y : List UInt8} (h : ∀ i, i < 64 → x.getD i 0 = y.getD i 0) : ∀ k, k ≤ 16 → fill1 x k = fill1 y k
  | 0, _ => rfl
  | k + 1, hk => by rw [fill1, fill1, fill1_congr h k (by omega), word_congr h (by omega)]
theorem fill2_congr {x y : List UInt8} (h : ∀ i, i < 64 → x.getD i 0 = y.getD i 0) : ∀ k, fill2 x k = fill2 y k
  | 0 => fill1_congr h 16 (Nat.le_refl _)
  | k + 1 => by rw [fill2, fill2, fill2_congr h k]
theorem block_congr {hs : List UInt32} {x y : List UInt8} (h : ∀ i, i < 64 → x.getD i 0 = y.getD i 0) : block hs x = block hs y := by
  simp only [block, fill2_congr h]
theorem block_len (hs : List UInt32) (bs : List UInt8) : (block hs bs).length = hs.length := adds_len _ _ _
/-- q blocks, one behind the other -/
def runB (hs : List UInt32) (bs : List UInt8) : Nat → List UInt32
  | 0 => hs
  | q + 1 => block (runB hs bs q) (bs.drop (64 * q))
theorem runB_len (hs : List UInt32) (bs : List UInt8) : ∀ q, (runB hs bs q).length = hs.length
  | 0 => rfl
  | q + 1 => by rw [runB, block_len, runB_len hs bs q]
theorem getD_drop' {x : List UInt8} {a i : Nat} : (x.drop a).getD i 0 = x.getD (a + i) 0 := by simp [List.getD_eq_getElem?_getD]
theorem getD_app {x y : List UInt8} {i : Nat} (h : i < x.length) : (x ++ y).getD i 0 = x.getD i 0 := by
  simp [List.getD_eq_getElem?_getD, List.getElem?_append_left h]
theorem runB_append (hs : List UInt32) (x y : List UInt8) : ∀ q, 64 * q ≤ x.length → runB hs (x ++ y) q = runB hs x q
  | 0, _ => rfl
  | q + 1, hq => by
    rw [runB, runB, runB_append hs x y q (by omega)]
    refine block_congr fun i hi => ?_
    rw [getD_drop', getD_drop', getD_app (by omega)]
def H0 : List UInt32 := [1732584193, 4023233417, 2562383102, 271733878, 3285377520]
def zeros (n : Nat) : Nat := (119 - n % 64) % 64
def lenB (n : UInt64) (i : Nat) : List UInt8 := (List.range i).map fun i => (shr64 n (56 - 8 * i)).toUInt8
theorem lenB_succ (n : UInt64) (i : Nat) : lenB n (i + 1) = lenB n i ++ [(shr64 n (56 - 8 * i)).toUInt8] := by simp [lenB, List.range_succ]
theorem lenB_len (n : UInt64) (i : Nat) : (lenB n i).length = i := by simp [lenB]
def bitsN (t : List UInt8) : UInt64 := UInt64.ofNat t.length * 8
/-- padded -/
def padded (t : List UInt8) : List UInt8 := t ++ ([128] ++ (List.replicate (zeros t.length) 0 ++ lenB (bitsN t) 8))
theorem padded_len (t : List UInt8) : (padded t).length = t.length + 9 + zeros t.length := by simp [padded, lenB_len]; omega
theorem padded_mod (t : List UInt8) : (padded t).length % 64 = 0 := by rw [padded_len]; simp only [zeros]; omega
def outB (hs : List UInt32) (i : Nat) : UInt8 := (shr32 (hs.getD (i / 4) 0) (24 - 8 * (i % 4))).toUInt8
def outN (hs : List UInt32) : Nat → List UInt8
  | 0 => List.replicate 20 0
  | k + 1 => (outN hs k).set k (outB hs k)
theorem outN_len (hs : List UInt32) : ∀ k, (outN hs k).length = 20
  | 0 => by simp [outN]
  | k + 1 => by simp [outN, outN_len hs k]
def sha (t : List UInt8) : List UInt8 := outN (runB H0 (padded t) ((padded t).length / 64)) 20
theorem sha_len (t : List UInt8) : (sha t).length = 20 := outN_len _ _
end sha
end Go.Proofs.Ytpmplnkempcmjaa

/- The program's SHA-1 of parts. -/
namespace Go.Proofs.Ytpmplnkempcmjaa
set_option linter.unusedVariables false
set_option linter.unusedSimpArgs false
open Go.RowKit
namespace sha
namespace FxShaSum
set_option maxRecDepth 100000
theorem ag101 : Program.aggN Try.prog 101 = some 20 := by kernel_rfl
theorem ar101 : Program.arrI Try.prog 101 = some (20, 1) := by kernel_rfl
theorem ar121 : Program.arrI Try.prog 121 = some (5, 1) := by kernel_rfl
theorem el30 : Elt Try.prog 30 5 1 1 (.int .u8 0) := ⟨Try.underlying30, by kernel_rfl, rfl, by decide, by simp [Value.cells, Value.oneCell']⟩
theorem sc26 : Program.isSc Try.prog 26 = true := by kernel_rfl
theorem sc30 : Program.isSc Try.prog 30 = true := by kernel_rfl
theorem sl119 : Program.slI Try.prog 119 = some 1 := by kernel_rfl
theorem sz101 : (Try.prog.info? 101).map (·.size) = some 20 := by kernel_rfl
theorem sz121 : (Try.prog.info? 121).map (·.size) = some 5 := by kernel_rfl
theorem sz26 : (Try.prog.info? 26).map (·.size) = some 1 := by kernel_rfl
theorem sz5 : (Try.prog.info? 5).map (·.size) = some 1 := by kernel_rfl
theorem zc101 : Program.zeroC Try.prog 101 = some ((List.replicate 20 (0 : UInt8)).map v8).toArray := by kernel_rfl
theorem zc121 : Program.zeroC Try.prog 121 = some ((List.replicate 5 (0 : UInt32)).map v32).toArray := by kernel_rfl
end FxShaSum
open FxShaSum
theorem cat_take_succ {ps : List Pt} {k : Nat} {d : Pt} (h : k < ps.length) : cat (ps.take (k + 1)) = cat (ps.take k) ++ (ps.getD k d).2.2 := by
  rw [List.take_succ_eq_append_getElem h, cat, List.flatMap_append]
  simp [cat, List.getD_eq_getElem?_getD, h]
theorem cat_zero {ps : List Pt} : cat (ps.take 0) = [] := by simp [cat]
def rz (T : List UInt8) (j : Nat) : List UInt8 := T.drop (64 * (T.length / 64)) ++ ([128] ++ List.replicate j 0)
def rl (T : List UInt8) (i : Nat) : List UInt8 := T.drop (64 * (T.length / 64)) ++ ([128] ++ (List.replicate (zeros T.length) 0 ++ lenB (bitsN T) i))
theorem rz_0 (T : List UInt8) : List.map v8 (T.drop (64 * (T.length / 64))) ++ [Value.int .u8 128] = List.map v8 (rz T 0) := by simp [rz]
theorem rz_s (T : List UInt8) (j : Nat) : List.map v8 (rz T j) ++ [Value.int .u8 0] = List.map v8 (rz T (j + 1)) := by simp [rz, List.replicate_succ']
theorem rl_0 (T : List UInt8) : rz T (zeros T.length) = rl T 0 := by simp [rz, rl, lenB]
theorem rl_s (T : List UInt8) (j : Nat) : List.map v8 (rl T j) ++ [v8 (shr64 (UInt64.ofNat T.length * 8) (56 - 8 * j)).toUInt8] = List.map v8 (rl T (j + 1)) := by simp [rl, lenB_succ, bitsN]
theorem rl_8 (T : List UInt8) : rl T 8 = (padded T).drop (64 * (T.length / 64)) := by rw [rl, padded, List.drop_append_of_le_length (by omega)]
theorem cat_take_le (ps : List Pt) (k : Nat) : (cat (ps.take k)).length ≤ (cat ps).length := by
  conv => rhs; rw [← List.take_append_drop k ps]
  simp only [cat, List.flatMap_append, List.length_append]; omega
set_option maxHeartbeats 4000000 in
theorem sum_fn (B : SA) (pp : Addr) (m mc : Nat) (ps : List Pt) (vs : List Value) (hB0 : Reads B 1 (.slice (some pp) m mc) m vs) (hv : vs = ps.map pv) (hm : ps.length = m) (hlen : (cat ps).length ≤ 140737488354000) (L : List SA) :
    Fn Try.prog 63 [.slice (some pp) m mc] (B :: SA.parts ps :: L) (fun v L' => v = .agg ((sha (cat ps)).map v8).toArray ∧ L' = B :: SA.parts ps :: L) := by
  have hB : Reads B 1 (.slice (some pp) m mc) m (ps.map pv) := hv ▸ hB0
  clear hB0 hv
  refine Fn.of (N := 82) Try.func63 rfl rfl ?_
  intro Xh
  refine TC.know (reads_cap hB inn) ?_
  rintro ⟨hmc, hcm, -, -⟩
  simp only [maxLen] at hcm
  refine TC.seq ?_
  refine TC.region ?_
  refine TL.eff rfl rfl rfl (X.alloc rfl zc101) ?_
  rintro _ _ ⟨b2, rfl, rfl⟩
  refine TL.nil ?_
  refine TQ.next ?_
  refine TC.seq ?_
  refine TC.region ?_
  refine TL.val rfl rfl rfl (Y.buildM rfl rfl Try.underlying121 sz26 zc121 rfl rfl rfl (by first | exact (by simp only [List.all_cons, List.all_nil, Value.oneCell', Bool.and_self]) | rfl)) ?_
  refine TL.eff rfl rfl rfl (X.alloc rfl zc121) ?_
  rintro _ _ ⟨b3, rfl, rfl⟩
  refine TL.eff0 rfl rfl (by first | exact X.storeAll rfl sz121 szz rfl rfl (by simp [Value.oneCell']) pul szz | exact X.storeAgg rfl sz121 szz rfl rfl (by simp [Value.oneCell']) pul szz (writeM (by ((try simp only [List.length_set, List.length_map, List.length_append, List.length_replicate]); omega)))) ?_
  rintro _ _ rfl
  refine TL.nil ?_
  refine TQ.next ?_
  refine TC.seq ?_
  refine TC.region ?_
  refine TL.val rfl rfl rfl (Y.assign rfl rfl) ?_
  refine TL.nil ?_
  refine TQ.next ?_
  refine TC.seq ?_
  refine TC.region ?_
  refine TL.val rfl rfl rfl (Y.assign rfl rfl) ?_
  refine TL.nil ?_
  refine TQ.next ?_
  refine TC.seq ?_
  refine TC.seq ?_
  refine TC.to (Ent.nilOwn 5 1) ?_
  refine TC.region ?_
  refine TL.val rfl rfl rfl (Y.move rfl rfl) ?_
  refine TL.val rfl rfl rfl (Y.len rfl Try.underlying119 rfl) ?_
  refine TL.val rfl rfl rfl (Y.move rfl rfl) ?_
  refine TL.nil ?_
  refine TQ.next ?_
  refine TC.block ?_
  refine TC.loopF (ι := Nat × Option Addr × Nat) [] (fun i => i.1 ≤ m) (fun i => [(14, some (vN i.1)), (5, some (v64 (UInt64.ofNat (cat (ps.take i.1)).length))), (4, some (.slice i.2.1 ((cat (ps.take i.1)).length % 64) i.2.2))]) (fun i => [SA.blk b3 ((runB H0 (cat (ps.take i.1)) ((cat (ps.take i.1)).length / 64)).map v32).toArray 121, SA.owns 5 1 (.slice i.2.1 ((cat (ps.take i.1)).length % 64) i.2.2) ((cat (ps.take i.1)).length % 64) (((cat (ps.take i.1)).drop (64 * ((cat (ps.take i.1)).length / 64))).map v8)]) (fun i => m - i.1) ((0, none, 0)) (by omega) ⟨rfl, by rw [cat_zero]; rfl, by rw [cat_zero]; rfl, trivial⟩ (by simp only [cat_zero, List.length_nil, Nat.zero_mod, Nat.zero_div, runB, List.drop_nil, Nat.mul_zero, List.map_nil]; exact Pulls.cons pul (Pulls.cons pul Pulls.nil)) ?_
  rintro ⟨k, a, cap⟩ hk F' L' rfl hL'
  simp only [List.cons_append, List.nil_append] at hL'
  subst hL'
  have hle := cat_take_le ps k; have hle2 := cat_take_le ps (k + 1); dsimp only at hk ⊢
  refine TC.seq ?_
  refine TC.region ?_
  refine TL.val rfl rfl rfl (Y.bin rfl rfl rfl (br_ltN)) ?_
  refine TL.nil ?_
  refine TQ.next ?_
  refine TC.seq ?_
  refine TC.cond rfl (fun c0 => ?_) (fun c0 => ?_)
  · try simp only [decide_eq_true_eq, decide_eq_false_iff_not, Bool.not_eq_true', Bool.not_eq_false', Bool.and_eq_true, Bool.or_eq_true, Nat.not_lt, Nat.not_le, beq_iff_eq, bne_iff_ne] at c0
    refine TC.skip ?_
    refine TQ.next ?_
    refine TC.seq ?_
    refine TC.block ?_
    refine TC.seq ?_
    refine TC.region ?_
    refine TL.val rfl rfl rfl (by first | exact Y.indexSlB rfl sl119 rfl rfl (by omega) nqq | exact Y.indexSl rfl sl119 rfl rfl (by omega) nqq) ?_
    refine TL.val rfl rfl rfl (Y.load rfl sc30 rfl ceoD) ?_
    refine TL.val rfl rfl rfl (Y.assign rfl rfl) ?_
    refine TL.nil ?_
    have hmem : ps.getD k default ∈ ps := getD_mem' (by omega)
    have hcat := cat_take_succ (d := default) (show k < ps.length by omega)
    generalize ps.getD k default = x at hmem hcat ⊢
    generalize hT : cat (ps.take k) = T at hle hcat ⊢
    obtain ⟨T', hT'⟩ : ∃ T', T' = T ++ x.2.2 := ⟨_, rfl⟩
    have hTl : T'.length = T.length + x.2.2.length := by rw [hT', List.length_append]
    have hTb : T'.length ≤ (cat ps).length := by rw [hT', ← hcat]; exact hle2
    refine TQ.next ?_
    refine TC.seq ?_
    refine TC.region ?_
    refine TL.val rfl rfl rfl (Y.move rfl rfl) ?_
    refine TL.val rfl rfl rfl (Y.move rfl rfl) ?_
    refine TL.val rfl rfl rfl (Y.len rfl Try.underlying30 rfl) ?_
    refine TL.val rfl rfl rfl (Y.conv rfl Try.underlying3 Try.underlying122 rfl (cv_N_64)) ?_
    refine TL.val rfl rfl rfl (Y.bin rfl rfl rfl (br_add64)) ?_
    refine TL.val rfl rfl rfl (Y.assign rfl rfl) ?_
    refine TL.nil ?_
    refine TQ.next ?_
    refine TC.seq ?_
    refine TC.region ?_
    refine TL.val rfl rfl rfl (Y.move rfl rfl) ?_
    refine TL.val rfl rfl rfl (Y.move rfl rfl) ?_
    refine TL.eff rfl rfl rfl (X.appendS rfl el30 rfl pul rfl (Src.parts Try.underlying30 inn hmem) (by simp only [maxLen]; omega) (by omega)) ?_
    rintro _ _ ⟨a25, c25, rfl, rfl⟩
    refine TL.val rfl rfl rfl (Y.assign rfl rfl) ?_
    refine TL.nil ?_
    refine TQ.next ?_
    refine TC.block ?_
    have e1 : T.length % 64 + x.2.2.length = T'.length - 64 * (T.length / 64) := by omega
    have e2 : (T.drop (64 * (T.length / 64))).map v8 ++ x.2.2.map v8 = (T'.drop (64 * (T.length / 64))).map v8 := by rw [hT', List.drop_append_of_le_length (by omega), List.map_append]
    have e3 : runB H0 T (T.length / 64) = runB H0 T' (T.length / 64) := by rw [hT', runB_append _ _ _ _ (by omega)]
    rw [e1, e2, e3]
    refine TC.loopF (ι := Nat × Option Addr × Nat) [] (fun i => 64 * i.1 ≤ T'.length) (fun i => [(4, some (.slice i.2.1 (T'.length - 64 * i.1) i.2.2))]) (fun i => [SA.blk b3 ((runB H0 T' i.1).map v32).toArray 121, SA.owns 5 1 (.slice i.2.1 (T'.length - 64 * i.1) i.2.2) (T'.length - 64 * i.1) ((T'.drop (64 * i.1)).map v8)]) (fun i => T'.length - 64 * i.1) ((T.length / 64, _, _)) (by show 64 * (T.length / 64) ≤ T'.length; omega) ⟨rfl, trivial⟩ (Pulls.cons pul (Pulls.cons pul Pulls.nil)) ?_
    rintro ⟨q, a2, cap2⟩ hq F' L' rfl hL'
    simp only [List.cons_append, List.nil_append] at hL'
    subst hL'
    dsimp only at hq ⊢
    refine TC.seq ?_
    refine TC.seq ?_
    refine TC.region ?_
    refine TL.val rfl rfl rfl (Y.move rfl rfl) ?_
    refine TL.val rfl rfl rfl (Y.len rfl Try.underlying30 rfl) ?_
    refine TL.val rfl rfl rfl (Y.bin rfl rfl rfl (br_geN (n := 64))) ?_
    refine TL.nil ?_
    refine TQ.next ?_
    refine TC.cond rfl (fun c1 => ?_) (fun c1 => ?_)
    · try simp only [decide_eq_true_eq, decide_eq_false_iff_not, Bool.not_eq_true', Bool.not_eq_false', Bool.and_eq_true, Bool.or_eq_true, Nat.not_lt, Nat.not_le, beq_iff_eq, bne_iff_ne] at c1
      refine TC.know (owns_some inn (by omega)) ?_
      rintro ⟨g2, off2, rfl⟩
      refine TC.skip ?_
      refine TQ.next ?_
      refine TC.block ?_
      refine TC.seq ?_
      refine TC.region ?_
      refine TL.val rfl rfl rfl (Y.move rfl rfl) ?_
      refine TL.eff rfl rfl rfl (X.call rfl Try.func65 (by kernel_rfl) rfl rfl (Fn.pre (block_fn b3 _ _ _ _ (runB H0 T' q) (T'.drop (64 * q)) _ (Reads.owns (e := 5)) (by rw [runB_len]; rfl) (by omega) (by simp) _) (Ent.cons pul (Ent.cons pul Ent.refl)))) ?_
      rintro _ _ ⟨rfl, rfl⟩
      refine TL.nil ?_
      refine TQ.next ?_
      refine TC.region ?_
      refine TL.val rfl rfl rfl (Y.move rfl rfl) ?_
      refine TL.val rfl rfl rfl (Y.sliceLo (k := 64) rfl Try.underlying30 sz5 rfl rfl (by omega)) ?_
      refine TL.val rfl rfl rfl (Y.assign rfl rfl) ?_
      refine TL.nil ?_
      refine TQ.block_normal ?_
      refine TQ.to (Ent.trans (Pull.ent pul) (Ent.dropOwn (k := 64) (by omega))) ?_
      have e4 : T'.length - 64 * q - 64 = T'.length - 64 * (q + 1) := by omega
      have e5 : ((T'.drop (64 * q)).map v8).drop (64 * 1) = (T'.drop (64 * (q + 1))).map v8 := by rw [← List.map_drop, List.drop_drop]; congr 2
      unfold cutV
      rw [e4, e5]
      refine TQ.loopF ((q + 1, _, _)) (by show 64 * (q + 1) ≤ T'.length; omega) (by show T'.length - 64 * (q + 1) < T'.length - 64 * q; omega) ⟨rfl, trivial⟩ (by (repeat first | apply Grow.refl | apply Grow.step | apply Grow.app)) ?_ ?_ ?_
      · kernel_rfl
      · rfl
      · simp only [List.cons_append, List.nil_append]
        exact ett
    · try simp only [decide_eq_true_eq, decide_eq_false_iff_not, Bool.not_eq_true', Bool.not_eq_false', Bool.and_eq_true, Bool.or_eq_true, Nat.not_lt, Nat.not_le, beq_iff_eq, bne_iff_ne] at c1
      refine TC.exit ?_
      refine TQ.then_exit ?_
      refine TQ.then_exit ?_
      refine TQ.block_exit ?_
      refine TQ.block_normal ?_
      refine TQ.next ?_
      refine TC.region ?_
      refine TL.val rfl rfl rfl (Y.bin rfl rfl rfl (br_addN (n := 1) (by omega))) ?_
      refine TL.val rfl rfl rfl (Y.move rfl rfl) ?_
      refine TL.nil ?_
      have hTT : T' = cat (ps.take (k + 1)) := hT'.trans hcat.symm
      obtain rfl : q = T'.length / 64 := by omega
      have e6 : T'.length - 64 * (T'.length / 64) = T'.length % 64 := by omega
      rw [e6]
      subst hTT
      refine TQ.loopF ((k + 1, _, _)) (by omega) (by omega) ⟨rfl, by rw [hcat, List.length_append, UInt64.ofNat_add]; rfl, rfl, trivial⟩ (by (repeat first | apply Grow.refl | apply Grow.step | apply Grow.app)) ?_ ?_ ?_
      · kernel_rfl
      · rfl
      · simp only [List.cons_append, List.nil_append]
        exact ett
  · try simp only [decide_eq_true_eq, decide_eq_false_iff_not, Bool.not_eq_true', Bool.not_eq_false', Bool.and_eq_true, Bool.or_eq_true, Nat.not_lt, Nat.not_le, beq_iff_eq, bne_iff_ne] at c0
    refine TC.exit ?_
    refine TQ.then_exit ?_
    refine TQ.then_exit ?_
    refine TQ.block_exit ?_
    refine TQ.next ?_
    refine TC.seq ?_
    obtain rfl : k = m := by omega
    have eT : ps.take k = ps := List.take_of_length_le (by omega)
    rw [eT]
    generalize cat ps = T at hlen ⊢
    have ez : zeros T.length = (119 - T.length % 64) % 64 := rfl
    refine TC.region ?_
    refine TL.val rfl rfl rfl (Y.move rfl rfl) ?_
    refine TL.eff rfl rfl rfl (X.lit rfl el30 rfl rfl rfl (by decide) rfl) ?_
    rintro _ _ ⟨g35, rfl, rfl⟩
    refine TL.eff rfl rfl rfl (X.appendS rfl el30 rfl pul rfl (by first | exact Src.owns Try.underlying30 inn | exact Src.rds Try.underlying30 inn | exact Src.reads (by assumption) Try.underlying30 inn) (by simp only [maxLen]; omega) (by omega)) ?_
    rintro _ _ ⟨a36, c36, rfl, rfl⟩
    refine TL.val rfl rfl rfl (Y.assign rfl rfl) ?_
    refine TL.nil ?_
    refine TQ.next ?_
    refine TC.seq ?_
    refine TC.block ?_
    rw [rz_0]
    refine TC.loopF (ι := Nat × Option Addr × Nat) [] (fun i => i.1 ≤ zeros T.length) (fun i => [(4, some (.slice i.2.1 (T.length % 64 + 1 + i.1) i.2.2))]) (fun i => [SA.owns 5 1 (.slice i.2.1 (T.length % 64 + 1 + i.1) i.2.2) (T.length % 64 + 1 + i.1) ((rz T i.1).map v8)]) (fun i => zeros T.length - i.1) ((0, _, _)) (Nat.zero_le _) ⟨rfl, trivial⟩ (Pulls.cons pul Pulls.nil) ?_
    rintro ⟨j, a4, cap4⟩ hj F' L' rfl hL'
    simp only [List.cons_append, List.nil_append] at hL'
    subst hL'
    dsimp only at hj ⊢
    refine TC.seq ?_
    refine TC.seq ?_
    refine TC.region ?_
    refine TL.val rfl rfl rfl (Y.move rfl rfl) ?_
    refine TL.val rfl rfl rfl (Y.len rfl Try.underlying30 rfl) ?_
    refine TL.val rfl rfl rfl (Y.bin rfl rfl rfl (br_remN (n := 64) (by omega))) ?_
    refine TL.val rfl rfl rfl (Y.bin rfl rfl rfl (br_neN (n := 56))) ?_
    refine TL.nil ?_
    refine TQ.next ?_
    refine TC.cond rfl (fun c2 => ?_) (fun c2 => ?_)
    · try simp only [decide_eq_true_eq, decide_eq_false_iff_not, Bool.not_eq_true', Bool.not_eq_false', Bool.and_eq_true, Bool.or_eq_true, Nat.not_lt, Nat.not_le, beq_iff_eq, bne_iff_ne] at c2
      have hj2 : j < zeros T.length := by omega
      refine TC.skip ?_
      refine TQ.next ?_
      refine TC.block ?_
      refine TC.region ?_
      refine TL.val rfl rfl rfl (Y.move rfl rfl) ?_
      refine TL.eff rfl rfl rfl (X.lit rfl el30 rfl rfl rfl (by decide) rfl) ?_
      rintro _ _ ⟨g42, rfl, rfl⟩
      refine TL.eff rfl rfl rfl (X.appendS rfl el30 rfl pul rfl (by first | exact Src.owns Try.underlying30 inn | exact Src.rds Try.underlying30 inn | exact Src.reads (by assumption) Try.underlying30 inn) (by simp only [maxLen]; omega) (by omega)) ?_
      rintro _ _ ⟨a43, c43, rfl, rfl⟩
      refine TL.val rfl rfl rfl (Y.assign rfl rfl) ?_
      refine TL.nil ?_
      refine TQ.block_normal ?_
      rw [rz_s]
      refine TQ.loopF ((j + 1, _, _)) (by show j + 1 ≤ zeros T.length; omega) (by show zeros T.length - (j + 1) < zeros T.length - j; omega) ⟨rfl, trivial⟩ (by (repeat first | apply Grow.refl | apply Grow.step | apply Grow.app)) ?_ ?_ ?_
      · kernel_rfl
      · rfl
      · simp only [List.cons_append, List.nil_append]
        exact ett
    · try simp only [decide_eq_true_eq, decide_eq_false_iff_not, Bool.not_eq_true', Bool.not_eq_false', Bool.and_eq_true, Bool.or_eq_true, Nat.not_lt, Nat.not_le, beq_iff_eq, bne_iff_ne] at c2
      refine TC.exit ?_
      refine TQ.then_exit ?_
      refine TQ.then_exit ?_
      refine TQ.block_exit ?_
      refine TQ.next ?_
      refine TC.seq ?_
      refine TC.seq ?_
      obtain rfl : j = zeros T.length := by omega
      rw [rl_0]
      refine TC.region ?_
      refine TL.val rfl rfl rfl (Y.move rfl rfl) ?_
      refine TL.nil ?_
      refine TQ.next ?_
      refine TC.block ?_
      refine TC.loopF (ι := Nat × Option Addr × Nat) [] (fun i => i.1 ≤ 8) (fun i => [(44, some (vN i.1)), (4, some (.slice i.2.1 (T.length % 64 + 1 + zeros T.length + i.1) i.2.2))]) (fun i => [SA.owns 5 1 (.slice i.2.1 (T.length % 64 + 1 + zeros T.length + i.1) i.2.2) (T.length % 64 + 1 + zeros T.length + i.1) ((rl T i.1).map v8)]) (fun i => 8 - i.1) ((0, _, _)) (by omega) ⟨rfl, rfl, trivial⟩ (Pulls.cons pul Pulls.nil) ?_
      rintro ⟨j, a6, cap6⟩ hj6 F' L' rfl hL'
      simp only [List.cons_append, List.nil_append] at hL'
      subst hL'
      dsimp only at hj6 ⊢
      refine TC.seq ?_
      refine TC.region ?_
      refine TL.val rfl rfl rfl (Y.bin rfl rfl rfl (br_ltN (n := 8))) ?_
      refine TL.nil ?_
      refine TQ.next ?_
      refine TC.seq ?_
      refine TC.cond rfl (fun c3 => ?_) (fun c3 => ?_)
      · try simp only [decide_eq_true_eq, decide_eq_false_iff_not, Bool.not_eq_true', Bool.not_eq_false', Bool.and_eq_true, Bool.or_eq_true, Nat.not_lt, Nat.not_le, beq_iff_eq, bne_iff_ne] at c3
        refine TC.skip ?_
        refine TQ.next ?_
        refine TC.seq ?_
        refine TC.block ?_
        refine TC.seq ?_
        refine TC.region ?_
        refine TL.val rfl rfl rfl (Y.move rfl rfl) ?_
        refine TL.val rfl rfl rfl (Y.assign rfl rfl) ?_
        refine TL.nil ?_
        refine TQ.next ?_
        refine TC.region ?_
        refine TL.val rfl rfl rfl (Y.move rfl rfl) ?_
        refine TL.val rfl rfl rfl (Y.move rfl rfl) ?_
        refine TL.val rfl rfl rfl (Y.bin rfl rfl rfl (br_mul64 (y := 8))) ?_
        refine TL.val rfl rfl rfl (Y.move rfl rfl) ?_
        refine TL.val rfl rfl rfl (Y.bin rfl rfl rfl (br_mulN (m := 8) (by omega))) ?_
        refine TL.val rfl rfl rfl (Y.bin rfl rfl rfl (br_subN (m := 56) (by omega) (by omega))) ?_
        refine TL.val rfl rfl rfl (Y.bin rfl rfl rfl (br_shr64)) ?_
        refine TL.val rfl rfl rfl (Y.conv rfl Try.underlying122 Try.underlying5 rfl (cv_64_8)) ?_
        refine TL.eff rfl rfl rfl (X.lit rfl el30 rfl rfl rfl (by decide) rfl) ?_
        rintro _ _ ⟨g55, rfl, rfl⟩
        refine TL.eff rfl rfl rfl (X.appendS rfl el30 rfl pul rfl (by first | exact Src.owns Try.underlying30 inn | exact Src.rds Try.underlying30 inn | exact Src.reads (by assumption) Try.underlying30 inn) (by simp only [maxLen]; omega) (by omega)) ?_
        rintro _ _ ⟨a56, c56, rfl, rfl⟩
        refine TL.val rfl rfl rfl (Y.assign rfl rfl) ?_
        refine TL.nil ?_
        refine TQ.block_normal ?_
        refine TQ.next ?_
        refine TC.region ?_
        refine TL.val rfl rfl rfl (Y.bin rfl rfl rfl (br_addN (n := 1) (by omega))) ?_
        refine TL.val rfl rfl rfl (Y.move rfl rfl) ?_
        refine TL.nil ?_
        rw [rl_s]
        refine TQ.loopF ((j + 1, _, _)) (by show j + 1 ≤ 8; omega) (by show 8 - (j + 1) < 8 - j; omega) ⟨rfl, rfl, trivial⟩ (by (repeat first | apply Grow.refl | apply Grow.step | apply Grow.app)) ?_ ?_ ?_
        · kernel_rfl
        · rfl
        · simp only [List.cons_append, List.nil_append]
          exact ett
      · try simp only [decide_eq_true_eq, decide_eq_false_iff_not, Bool.not_eq_true', Bool.not_eq_false', Bool.and_eq_true, Bool.or_eq_true, Nat.not_lt, Nat.not_le, beq_iff_eq, bne_iff_ne] at c3
        refine TC.exit ?_
        refine TQ.then_exit ?_
        refine TQ.then_exit ?_
        refine TQ.block_exit ?_
        refine TQ.next ?_
        refine TC.seq ?_
        refine TC.block ?_
        obtain rfl : j = 8 := by omega
        have hMl := padded_len T
        have hMm := padded_mod T
        have e4 : T.length % 64 + 1 + zeros T.length + 8 = (padded T).length - 64 * (T.length / 64) := by omega
        have e6 : runB H0 T (T.length / 64) = runB H0 (padded T) (T.length / 64) := by rw [padded, runB_append _ _ _ _ (by omega)]
        rw [e4, rl_8, e6]
        refine TC.loopF (ι := Nat × Option Addr × Nat) [] (fun i => 64 * i.1 ≤ (padded T).length) (fun i => [(4, some (.slice i.2.1 ((padded T).length - 64 * i.1) i.2.2))]) (fun i => [SA.blk b3 ((runB H0 (padded T) i.1).map v32).toArray 121, SA.owns 5 1 (.slice i.2.1 ((padded T).length - 64 * i.1) i.2.2) ((padded T).length - 64 * i.1) (((padded T).drop (64 * i.1)).map v8)]) (fun i => (padded T).length - 64 * i.1) ((T.length / 64, _, _)) (by show 64 * (T.length / 64) ≤ (padded T).length; omega) ⟨rfl, trivial⟩ (Pulls.cons pul (Pulls.cons pul Pulls.nil)) ?_
        rintro ⟨q, a2, cap2⟩ hq F' L' rfl hL'
        simp only [List.cons_append, List.nil_append] at hL'
        subst hL'
        dsimp only at hq ⊢
        refine TC.seq ?_
        refine TC.seq ?_
        refine TC.region ?_
        refine TL.val rfl rfl rfl (Y.move rfl rfl) ?_
        refine TL.val rfl rfl rfl (Y.len rfl Try.underlying30 rfl) ?_
        refine TL.val rfl rfl rfl (Y.bin rfl rfl rfl (br_gtN (n := 0))) ?_
        refine TL.nil ?_
        refine TQ.next ?_
        refine TC.cond rfl (fun c4 => ?_) (fun c4 => ?_)
        · try simp only [decide_eq_true_eq, decide_eq_false_iff_not, Bool.not_eq_true', Bool.not_eq_false', Bool.and_eq_true, Bool.or_eq_true, Nat.not_lt, Nat.not_le, beq_iff_eq, bne_iff_ne] at c4
          refine TC.know (owns_some inn (by omega)) ?_
          rintro ⟨g2, off2, rfl⟩
          refine TC.skip ?_
          refine TQ.next ?_
          refine TC.seq ?_
          refine TC.block ?_
          refine TC.region ?_
          refine TL.val rfl rfl rfl (Y.move rfl rfl) ?_
          refine TL.eff rfl rfl rfl (X.call rfl Try.func65 (by kernel_rfl) rfl rfl (Fn.pre (block_fn b3 _ _ _ _ (runB H0 (padded T) q) ((padded T).drop (64 * q)) _ (Reads.owns (e := 5)) (by rw [runB_len]; rfl) (by omega) (by simp) _) (Ent.cons pul (Ent.cons pul Ent.refl)))) ?_
          rintro _ _ ⟨rfl, rfl⟩
          refine TL.nil ?_
          refine TQ.block_normal ?_
          refine TQ.next ?_
          refine TC.region ?_
          refine TL.val rfl rfl rfl (Y.move rfl rfl) ?_
          refine TL.val rfl rfl rfl (Y.sliceLo (k := 64) rfl Try.underlying30 sz5 rfl rfl (by omega)) ?_
          refine TL.val rfl rfl rfl (Y.assign rfl rfl) ?_
          refine TL.nil ?_
          refine TQ.to (Ent.trans (Pull.ent pul) (Ent.dropOwn (k := 64) (by omega))) ?_
          have e4 : (padded T).length - 64 * q - 64 = (padded T).length - 64 * (q + 1) := by omega
          have e5 : (((padded T).drop (64 * q)).map v8).drop (64 * 1) = ((padded T).drop (64 * (q + 1))).map v8 := by rw [← List.map_drop, List.drop_drop]; congr 2
          unfold cutV
          rw [e4, e5]
          refine TQ.loopF ((q + 1, _, _)) (by show 64 * (q + 1) ≤ (padded T).length; omega) (by show (padded T).length - 64 * (q + 1) < (padded T).length - 64 * q; omega) ⟨rfl, trivial⟩ (by (repeat first | apply Grow.refl | apply Grow.step | apply Grow.app)) ?_ ?_ ?_
          · kernel_rfl
          · rfl
          · simp only [List.cons_append, List.nil_append]
            exact ett
        · try simp only [decide_eq_true_eq, decide_eq_false_iff_not, Bool.not_eq_true', Bool.not_eq_false', Bool.and_eq_true, Bool.or_eq_true, Nat.not_lt, Nat.not_le, beq_iff_eq, bne_iff_ne] at c4
          refine TC.exit ?_
          refine TQ.then_exit ?_
          refine TQ.then_exit ?_
          refine TQ.block_exit ?_
          refine TQ.next ?_
          refine TC.seq ?_
          obtain rfl : q = (padded T).length / 64 := by omega
          have hrl := runB_len H0 (padded T) ((padded T).length / 64)
          replace hrl : (runB H0 (padded T) ((padded T).length / 64)).length = 5 := hrl
          generalize hH : runB H0 (padded T) ((padded T).length / 64) = H at hrl ⊢
          refine TC.region ?_
          refine TL.eff rfl rfl rfl (X.alloc rfl zc101) ?_
          rintro _ _ ⟨b9, rfl, rfl⟩
          refine TL.nil ?_
          refine TQ.next ?_
          refine TC.seq ?_
          refine TC.seq ?_
          refine TC.region ?_
          refine TL.val rfl rfl rfl (Y.move rfl rfl) ?_
          refine TL.nil ?_
          refine TQ.next ?_
          refine TC.block ?_
          refine TC.loopF (ι := Nat) [] (fun k => k ≤ 20) (fun k => [(65, some (vN k))]) (fun k => [SA.blk b9 ((outN H k).map v8).toArray 101]) (fun k => 20 - k) (0) (by omega) ⟨rfl, trivial⟩ (Pulls.cons pul Pulls.nil) ?_
          rintro k' hk' F' L' rfl hL'
          simp only [List.cons_append, List.nil_append] at hL'
          subst hL'
          have hol := outN_len H k'
          refine TC.seq ?_
          refine TC.region ?_
          refine TL.val rfl rfl rfl (Y.bin rfl rfl rfl (br_ltN (n := 20))) ?_
          refine TL.nil ?_
          refine TQ.next ?_
          refine TC.seq ?_
          refine TC.cond rfl (fun c5 => ?_) (fun c5 => ?_)
          · try simp only [decide_eq_true_eq, decide_eq_false_iff_not, Bool.not_eq_true', Bool.not_eq_false', Bool.and_eq_true, Bool.or_eq_true, Nat.not_lt, Nat.not_le, beq_iff_eq, bne_iff_ne] at c5
            refine TC.skip ?_
            refine TQ.next ?_
            refine TC.seq ?_
            refine TC.block ?_
            refine TC.seq ?_
            refine TC.region ?_
            refine TL.val rfl rfl rfl (Y.move rfl rfl) ?_
            refine TL.val rfl rfl rfl (Y.assign rfl rfl) ?_
            refine TL.nil ?_
            refine TQ.next ?_
            refine TC.region ?_
            refine TL.val rfl rfl rfl (Y.move rfl rfl) ?_
            refine TL.val rfl rfl rfl (Y.move rfl rfl) ?_
            refine TL.val rfl rfl rfl (Y.bin rfl rfl rfl (br_quoN (n := 4) (by omega) (by omega))) ?_
            refine TL.val rfl rfl rfl (Y.indexArr rfl ar121 rfl rfl (by omega) nqq) ?_
            refine TL.val rfl rfl rfl (Y.load rfl sc26 rfl ceo32) ?_
            refine TL.val rfl rfl rfl (Y.move rfl rfl) ?_
            refine TL.val rfl rfl rfl (Y.bin rfl rfl rfl (br_remN (n := 4) (by omega))) ?_
            refine TL.val rfl rfl rfl (Y.bin rfl rfl rfl (br_mulN (m := 8) (by omega))) ?_
            refine TL.val rfl rfl rfl (Y.bin rfl rfl rfl (br_subN (m := 24) (by omega) (by omega))) ?_
            refine TL.val rfl rfl rfl (Y.bin rfl rfl rfl (br_shr32)) ?_
            refine TL.val rfl rfl rfl (Y.conv rfl Try.underlying26 Try.underlying5 rfl (cv_32_8)) ?_
            refine TL.val rfl rfl rfl (Y.indexArr rfl ar101 rfl rfl (by omega) nqq) ?_
            refine TL.eff0 rfl rfl (by first | exact X.store rfl sz5 rfl rfl rfl pul lnn (by first | exact setM | rfl) | exact X.storeOwn rfl sz5 rfl (Nat.zero_add _).symm rfl rfl pul lnn (by first | exact setML | rfl) | exact X.storeOwn rfl sz5 rfl rfl rfl rfl pul lnn (by first | exact setML | rfl)) ?_
            rintro _ _ rfl
            refine TL.nil ?_
            refine TQ.block_normal ?_
            refine TQ.next ?_
            refine TC.region ?_
            refine TL.val rfl rfl rfl (Y.bin rfl rfl rfl (br_addN (n := 1) (by omega))) ?_
            refine TL.val rfl rfl rfl (Y.move rfl rfl) ?_
            refine TL.nil ?_
            skip
            refine TQ.loopF (k' + 1) (by omega) (by omega) ⟨rfl, trivial⟩ (by (repeat first | apply Grow.refl | apply Grow.step | apply Grow.app)) ?_ ?_ ?_
            · kernel_rfl
            · rfl
            · simp only [List.cons_append, List.nil_append]
              exact ett
          · try simp only [decide_eq_true_eq, decide_eq_false_iff_not, Bool.not_eq_true', Bool.not_eq_false', Bool.and_eq_true, Bool.or_eq_true, Nat.not_lt, Nat.not_le, beq_iff_eq, bne_iff_ne] at c5
            refine TC.exit ?_
            refine TQ.then_exit ?_
            refine TQ.then_exit ?_
            refine TQ.block_exit ?_
            refine TQ.next ?_
            refine TC.seq ?_
            obtain rfl : k' = 20 := by omega
            have hol := outN_len H 20
            refine TC.region ?_
            refine TL.val rfl rfl rfl (Y.loadAgg rfl ag101 rfl (Cels.full inn) (by ((try simp only [List.length_map, List.length_set, List.length_replicate]); omega))) ?_
            refine TL.eff0 rfl rfl (by first | exact X.storeAll rfl sz101 szz rfl rfl (by simp [Value.oneCell']) pul szz | exact X.storeAgg rfl sz101 szz rfl rfl (by simp [Value.oneCell']) pul szz (writeM (by ((try simp only [List.length_set, List.length_map, List.length_append, List.length_replicate]); omega)))) ?_
            rintro _ _ rfl
            refine TL.nil ?_
            refine TQ.next ?_
            refine TC.ret ?_
            have hsha : sha T = outN H 20 := by rw [sha, hH]
            rw [← hsha]
            refine TQ.retE (resC rfl ag101 rfl (Cels.full inn) szz) (⟨rfl, rfl⟩) ?_
            exact ett
end sha
end Go.Proofs.Ytpmplnkempcmjaa
