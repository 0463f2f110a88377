/- assoc: cookied and receive, walked. -/
import Derived.Test.YtomplpdeeomehaaAsE
import Derived.Test.YtomplpdeeomehaaHAuto
namespace Go.Proofs.Ytomplpdeeomehaa
set_option linter.unusedVariables false
set_option linter.unusedSimpArgs false
open Go.RowKit
namespace ac
open wr (be16 be32)
open rd (num rdB rdL rdV)
namespace FxAsF
set_option maxRecDepth 100000
theorem el24 : Elt Try.prog 24 23 1 24 (.slice none 0 0) := ⟨Try.underlying24, by kernel_rfl, rfl, by decide, by simp [Value.cells, Value.oneCell']⟩
theorem fo68_3 : Program.fieldOff Try.prog 68 3 = some 3 := by kernel_rfl
theorem fo68_4 : Program.fieldOff Try.prog 68 4 = some 4 := by kernel_rfl
theorem fo68_5 : Program.fieldOff Try.prog 68 5 = some 5 := by kernel_rfl
theorem fo68_6 : Program.fieldOff Try.prog 68 6 = some 6 := by kernel_rfl
theorem sc22 : Program.isSc Try.prog 22 = true := by kernel_rfl
theorem sc3 : Program.isSc Try.prog 3 = true := by kernel_rfl
end FxAsF
open FxAsF
theorem Equal_fn (A B : SA) (a : Option Addr) (n cap : Nat) (x : List UInt8) (b : Option Addr) (m cb : Nat) (y : List UInt8) (hA : Reads A 1 (.slice a n cap) n (x.map v8)) (hB : Reads B 1 (.slice b m cb) m (y.map v8)) (L : List SA) :
    Fn Try.prog 50 [.slice a n cap, .slice b m cb] (A :: B :: L) (fun v L' => v = .bool (decide (x = y)) ∧ L' = A :: B :: L) := by
  refine Fn.of (N := 10) Try.func50 rfl rfl ?_
  intro Xh
  refine TC.seq ?_
  refine TC.region ?_
  refine TL.val rfl rfl rfl (Y.assign rfl rfl) ?_
  refine TL.nil ?_
  refine TQ.next ?_
  refine TC.seq ?_
  refine TC.region ?_
  refine TL.val rfl rfl rfl (Y.move rfl rfl) ?_
  refine TL.val rfl rfl rfl (by first | exact Y.str rfl Try.underlying23 Try.underlying9 Try.underlying5 rfl Reads.rds inn | exact Y.str rfl Try.underlying23 Try.underlying9 Try.underlying5 rfl Reads.owns inn | exact Y.str rfl Try.underlying23 Try.underlying9 Try.underlying5 rfl (by assumption) inn) ?_
  refine TL.val rfl rfl rfl (Y.move rfl rfl) ?_
  refine TL.val rfl rfl rfl (by first | exact Y.str rfl Try.underlying23 Try.underlying9 Try.underlying5 rfl Reads.rds inn | exact Y.str rfl Try.underlying23 Try.underlying9 Try.underlying5 rfl Reads.owns inn | exact Y.str rfl Try.underlying23 Try.underlying9 Try.underlying5 rfl (by assumption) inn) ?_
  refine TL.val rfl rfl rfl (Y.eqStr rfl rfl rfl) ?_
  refine TL.val rfl rfl rfl (Y.assign rfl rfl) ?_
  refine TL.nil ?_
  refine TQ.next ?_
  refine TC.ret ?_
  refine TQ.retE (res1 rfl rfl) (⟨rfl, rfl⟩) ?_
  exact ett
section
variable (b : Nat) (p : AP) (S : AS Msg) (rb : Nat) (c : List UInt8) (hc : c.length = 36) (hs : S.secret.length ≤ 140737488351232)
include hc hs
theorem cookied_bad (h : c ≠ cookieB S (num (c.take 4)) (num ((c.drop 4).take 4))) (L : List SA) :
    Fn Try.prog 33 [pt b 0, pt rb 0] (rd.R rb c false :: aB b p S :: aS p S :: L) (fun v L' => v = .tuple #[.slice none 0 0, .slice none 0 0, vN 4] ∧ L' = aB b p S :: aS p S :: L) := by
  refine Fn.of (N := 68) Try.func33 rfl rfl ?_
  intro Xh
  obtain ⟨tag, htag⟩ : ∃ t, t = num (c.take 4) := ⟨_, rfl⟩
  obtain ⟨tsn, htsn⟩ : ∃ t, t = num ((c.drop 4).take 4) := ⟨_, rfl⟩
  rw [← htag, ← htsn] at h
  try rw [← htag]
  try rw [← htsn]
  try rw [← htag] at h3
  try rw [← htag] at ho
  refine TC.seq ?_
  refine TC.region ?_
  refine TL.val rfl rfl rfl (Y.assign rfl rfl) ?_
  refine TL.val rfl rfl rfl (Y.assign rfl rfl) ?_
  refine TL.val rfl rfl rfl (Y.assign rfl rfl) ?_
  refine TL.nil ?_
  refine TQ.next ?_
  refine TC.seq ?_
  refine TC.region ?_
  refine TL.val rfl rfl rfl (Y.move rfl rfl) ?_
  refine TL.eff rfl rfl rfl (X.call rfl Try.func35 (by kernel_rfl) rfl rfl (Fn.preE (by repeat first | (with_reducible apply Ent.refl) | (apply Ent.cons; case h => first | (with_reducible (repeat first | apply Pull.here | apply Pull.there); done) | (repeat first | apply Pull.here | apply Pull.there))) (take_ok rb 36 c (by omega) (by omega) _))) ?_
  rintro _ _ ⟨a12, c12, rfl, rfl⟩
  rw [List.take_of_length_le (by omega : c.length ≤ 36)]
  refine TL.val rfl rfl rfl (Y.assign rfl rfl) ?_
  refine TL.nil ?_
  refine TQ.next ?_
  refine TC.seq ?_
  refine TC.to ((Pull.ent (A := SA.owns 5 1 (.slice a12 36 c12) 36 (c.map v8)) pul).trans Ent.freeze) ?_
  refine TC.region ?_
  refine TL.val rfl rfl rfl (Y.move rfl rfl) ?_
  refine TL.eff rfl rfl rfl (X.call rfl Try.func26 (by kernel_rfl) rfl rfl (Fn.preE (by repeat first | (with_reducible apply Ent.refl) | (apply Ent.cons; case h => first | (with_reducible (repeat first | apply Pull.here | apply Pull.there); done) | (repeat first | apply Pull.here | apply Pull.there))) (rd.New_fn a12 36 c12 c hc (by decide) _))) ?_
  rintro _ _ ⟨p14, rfl, rfl⟩
  refine TL.val rfl rfl rfl (Y.assign rfl rfl) ?_
  refine TL.nil ?_
  refine TQ.next ?_
  refine TC.seq ?_
  refine TC.region ?_
  refine TL.val rfl rfl rfl (Y.move rfl rfl) ?_
  refine TL.eff rfl rfl rfl (X.call rfl Try.func27 (by kernel_rfl) rfl rfl (Fn.preE (by repeat first | (with_reducible apply Ent.refl) | (apply Ent.cons; case h => first | (with_reducible (repeat first | apply Pull.here | apply Pull.there); done) | (repeat first | apply Pull.here | apply Pull.there))) (u32_ok p14 c (by omega) _))) ?_
  rintro _ _ ⟨rfl, rfl⟩
  rw [← htag]
  refine TL.val rfl rfl rfl (Y.move rfl rfl) ?_
  refine TL.eff rfl rfl rfl (X.call rfl Try.func27 (by kernel_rfl) rfl rfl (Fn.preE (by repeat first | (with_reducible apply Ent.refl) | (apply Ent.cons; case h => first | (with_reducible (repeat first | apply Pull.here | apply Pull.there); done) | (repeat first | apply Pull.here | apply Pull.there))) (u32_ok p14 (c.drop 4) (by rw [List.length_drop]; omega) _))) ?_
  rintro _ _ ⟨rfl, rfl⟩
  rw [← htsn]
  refine TL.val rfl rfl rfl (Y.assign rfl rfl) ?_
  refine TL.val rfl rfl rfl (Y.assign rfl rfl) ?_
  refine TL.nil ?_
  refine TQ.next ?_
  refine TC.seq ?_
  refine TC.block ?_
  refine TC.seq ?_
  refine TC.region ?_
  refine TL.val rfl rfl rfl (Y.move rfl rfl) ?_
  refine TL.val rfl rfl rfl (Y.move rfl rfl) ?_
  refine TL.val rfl rfl rfl (Y.move rfl rfl) ?_
  refine TL.val rfl rfl rfl (Y.move rfl rfl) ?_
  refine TL.eff rfl rfl rfl (X.call rfl Try.func49 (by kernel_rfl) rfl rfl (Fn.preE (by repeat first | (with_reducible apply Ent.refl) | (apply Ent.cons; case h => first | (with_reducible (repeat first | apply Pull.here | apply Pull.there); done) | (repeat first | apply Pull.here | apply Pull.there))) (cookie_fn b p S tag tsn hs _))) ?_
  rintro _ _ ⟨a24, c24, rfl, rfl⟩
  refine TL.eff rfl rfl rfl (X.call rfl Try.func50 (by kernel_rfl) rfl rfl (Fn.preE (by repeat first | (with_reducible apply Ent.refl) | (apply Ent.cons; case h => first | (with_reducible (repeat first | apply Pull.here | apply Pull.there); done) | (repeat first | apply Pull.here | apply Pull.there))) (Equal_fn (SA.rds 1 (.slice a12 36 c12) 36 (c.map v8)) (SA.owns 5 1 (.slice a24 36 c24) 36 ((cookieB S tag tsn).map v8)) a12 36 c12 c a24 36 c24 (cookieB S tag tsn) Reads.rds Reads.owns _))) ?_
  rintro _ _ ⟨rfl, rfl⟩
  refine TL.val rfl rfl rfl (Y.not rfl rfl) ?_
  refine TL.is true (by (rw [decide_eq_false h]; rfl)) ?_
  refine TL.val rfl rfl rfl (Y.assign rfl rfl) ?_
  refine TL.nil ?_
  refine TQ.next ?_
  refine TC.cond_t rfl ?_
  refine TC.seq ?_
  refine TC.region ?_
  refine TL.val rfl rfl rfl (Y.assign rfl rfl) ?_
  refine TL.val rfl rfl rfl (Y.assign rfl rfl) ?_
  refine TL.val rfl rfl rfl (Y.assign rfl rfl) ?_
  refine TL.nil ?_
  refine TQ.next ?_
  refine TC.ret ?_
  refine TQ.block_ret ?_
  refine TQ.then_ret ?_
  refine TQ.retE (resL rfl (Res.tmp rfl (Res.tmp rfl (Res.tmp rfl Res.nil)))) (⟨rfl, rfl⟩) ?_
  exact ett
theorem cookied_open (h : c = cookieB S (num (c.take 4)) (num ((c.drop 4).take 4))) (h0 : S.state = 0) (L : List SA) :
    Fn Try.prog 33 [pt b 0, pt rb 0] (rd.R rb c false :: aB b p S :: aS p S :: L)
      (fun v L' => ∃ o : Sl Bs, v = .tuple #[o.v, .slice none 0 0, vN 0] ∧ o.l.map (·.l) = [pkt (num (c.take 4)) 4] ∧ L' = SA.dat o :: aB b p (S.opened (num (c.take 4)) (num ((c.drop 4).take 4))) :: aS p S :: L) := by
  refine Fn.of (N := 68) Try.func33 rfl rfl ?_
  intro Xh
  obtain ⟨tag, htag⟩ : ∃ t, t = num (c.take 4) := ⟨_, rfl⟩
  obtain ⟨tsn, htsn⟩ : ∃ t, t = num ((c.drop 4).take 4) := ⟨_, rfl⟩
  rw [← htag, ← htsn] at h
  try rw [← htag]
  try rw [← htsn]
  try rw [← htag] at h3
  try rw [← htag] at ho
  refine TC.seq ?_
  refine TC.region ?_
  refine TL.val rfl rfl rfl (Y.assign rfl rfl) ?_
  refine TL.val rfl rfl rfl (Y.assign rfl rfl) ?_
  refine TL.val rfl rfl rfl (Y.assign rfl rfl) ?_
  refine TL.nil ?_
  refine TQ.next ?_
  refine TC.seq ?_
  refine TC.region ?_
  refine TL.val rfl rfl rfl (Y.move rfl rfl) ?_
  refine TL.eff rfl rfl rfl (X.call rfl Try.func35 (by kernel_rfl) rfl rfl (Fn.preE (by repeat first | (with_reducible apply Ent.refl) | (apply Ent.cons; case h => first | (with_reducible (repeat first | apply Pull.here | apply Pull.there); done) | (repeat first | apply Pull.here | apply Pull.there))) (take_ok rb 36 c (by omega) (by omega) _))) ?_
  rintro _ _ ⟨a12, c12, rfl, rfl⟩
  rw [List.take_of_length_le (by omega : c.length ≤ 36)]
  refine TL.val rfl rfl rfl (Y.assign rfl rfl) ?_
  refine TL.nil ?_
  refine TQ.next ?_
  refine TC.seq ?_
  refine TC.to ((Pull.ent (A := SA.owns 5 1 (.slice a12 36 c12) 36 (c.map v8)) pul).trans Ent.freeze) ?_
  refine TC.region ?_
  refine TL.val rfl rfl rfl (Y.move rfl rfl) ?_
  refine TL.eff rfl rfl rfl (X.call rfl Try.func26 (by kernel_rfl) rfl rfl (Fn.preE (by repeat first | (with_reducible apply Ent.refl) | (apply Ent.cons; case h => first | (with_reducible (repeat first | apply Pull.here | apply Pull.there); done) | (repeat first | apply Pull.here | apply Pull.there))) (rd.New_fn a12 36 c12 c hc (by decide) _))) ?_
  rintro _ _ ⟨p14, rfl, rfl⟩
  refine TL.val rfl rfl rfl (Y.assign rfl rfl) ?_
  refine TL.nil ?_
  refine TQ.next ?_
  refine TC.seq ?_
  refine TC.region ?_
  refine TL.val rfl rfl rfl (Y.move rfl rfl) ?_
  refine TL.eff rfl rfl rfl (X.call rfl Try.func27 (by kernel_rfl) rfl rfl (Fn.preE (by repeat first | (with_reducible apply Ent.refl) | (apply Ent.cons; case h => first | (with_reducible (repeat first | apply Pull.here | apply Pull.there); done) | (repeat first | apply Pull.here | apply Pull.there))) (u32_ok p14 c (by omega) _))) ?_
  rintro _ _ ⟨rfl, rfl⟩
  rw [← htag]
  refine TL.val rfl rfl rfl (Y.move rfl rfl) ?_
  refine TL.eff rfl rfl rfl (X.call rfl Try.func27 (by kernel_rfl) rfl rfl (Fn.preE (by repeat first | (with_reducible apply Ent.refl) | (apply Ent.cons; case h => first | (with_reducible (repeat first | apply Pull.here | apply Pull.there); done) | (repeat first | apply Pull.here | apply Pull.there))) (u32_ok p14 (c.drop 4) (by rw [List.length_drop]; omega) _))) ?_
  rintro _ _ ⟨rfl, rfl⟩
  rw [← htsn]
  refine TL.val rfl rfl rfl (Y.assign rfl rfl) ?_
  refine TL.val rfl rfl rfl (Y.assign rfl rfl) ?_
  refine TL.nil ?_
  refine TQ.next ?_
  refine TC.seq ?_
  refine TC.block ?_
  refine TC.seq ?_
  refine TC.region ?_
  refine TL.val rfl rfl rfl (Y.move rfl rfl) ?_
  refine TL.val rfl rfl rfl (Y.move rfl rfl) ?_
  refine TL.val rfl rfl rfl (Y.move rfl rfl) ?_
  refine TL.val rfl rfl rfl (Y.move rfl rfl) ?_
  refine TL.eff rfl rfl rfl (X.call rfl Try.func49 (by kernel_rfl) rfl rfl (Fn.preE (by repeat first | (with_reducible apply Ent.refl) | (apply Ent.cons; case h => first | (with_reducible (repeat first | apply Pull.here | apply Pull.there); done) | (repeat first | apply Pull.here | apply Pull.there))) (cookie_fn b p S tag tsn hs _))) ?_
  rintro _ _ ⟨a24, c24, rfl, rfl⟩
  refine TL.eff rfl rfl rfl (X.call rfl Try.func50 (by kernel_rfl) rfl rfl (Fn.preE (by repeat first | (with_reducible apply Ent.refl) | (apply Ent.cons; case h => first | (with_reducible (repeat first | apply Pull.here | apply Pull.there); done) | (repeat first | apply Pull.here | apply Pull.there))) (Equal_fn (SA.rds 1 (.slice a12 36 c12) 36 (c.map v8)) (SA.owns 5 1 (.slice a24 36 c24) 36 ((cookieB S tag tsn).map v8)) a12 36 c12 c a24 36 c24 (cookieB S tag tsn) Reads.rds Reads.owns _))) ?_
  rintro _ _ ⟨rfl, rfl⟩
  refine TL.val rfl rfl rfl (Y.not rfl rfl) ?_
  refine TL.is false (by (rw [decide_eq_true h]; rfl)) ?_
  refine TL.val rfl rfl rfl (Y.assign rfl rfl) ?_
  refine TL.nil ?_
  refine TQ.next ?_
  refine TC.cond_f rfl ?_
  refine TC.seq ?_
  refine TC.region ?_
  refine TL.val rfl rfl rfl (Y.move rfl rfl) ?_
  refine TL.val rfl rfl rfl (Y.nilCheck rfl rfl) ?_
  refine TL.val rfl rfl rfl (by first | exact Y.fieldAddrJ rfl fo68_3 rfl nqq | exact Y.fieldAddr rfl fo68_3 rfl nqq) ?_
  refine TL.val rfl rfl rfl (Y.load rfl sc3 rfl celN) ?_
  refine TL.as (vN S.state) (by rfl) ?_
  refine TL.val rfl rfl rfl (Y.bin rfl rfl rfl (br_eqN (n := 0))) ?_
  refine TL.is true (by simpa using h0) ?_
  refine TL.val rfl rfl rfl (Y.assign rfl rfl) ?_
  refine TL.nil ?_
  refine TQ.next ?_
  refine TC.cond_t rfl ?_
  refine TC.region ?_
  refine TL.val rfl rfl rfl (Y.move rfl rfl) ?_
  refine TL.val rfl rfl rfl (Y.move rfl rfl) ?_
  refine TL.val rfl rfl rfl (Y.move rfl rfl) ?_
  refine TL.val rfl rfl rfl (Y.move rfl rfl) ?_
  refine TL.val rfl rfl rfl (Y.move rfl rfl) ?_
  refine TL.val rfl rfl rfl (Y.move rfl rfl) ?_
  refine TL.val rfl rfl rfl (Y.bin rfl rfl rfl (br_sub32 (y := 1))) ?_
  refine TL.val rfl rfl rfl (Y.nilCheck rfl rfl) ?_
  refine TL.val rfl rfl rfl (by first | exact Y.fieldAddrJ rfl fo68_3 rfl nqq | exact Y.fieldAddr rfl fo68_3 rfl nqq) ?_
  refine TL.eff0 rfl rfl (X.store (cs' := asC p { S with state := 3 }) rfl (by kernel_rfl) rfl rfl rfl pul (by show 3 < 17; decide) rfl) ?_
  rintro _ _ rfl
  refine TL.val rfl rfl rfl (Y.nilCheck rfl rfl) ?_
  refine TL.val rfl rfl rfl (by first | exact Y.fieldAddrJ rfl fo68_4 rfl nqq | exact Y.fieldAddr rfl fo68_4 rfl nqq) ?_
  refine TL.eff0 rfl rfl (X.store (cs' := asC p { S with state := 3, known := true }) rfl (by kernel_rfl) rfl rfl rfl pul (by show 4 < 17; decide) rfl) ?_
  rintro _ _ rfl
  refine TL.val rfl rfl rfl (Y.nilCheck rfl rfl) ?_
  refine TL.val rfl rfl rfl (by first | exact Y.fieldAddrJ rfl fo68_5 rfl nqq | exact Y.fieldAddr rfl fo68_5 rfl nqq) ?_
  refine TL.eff0 rfl rfl (X.store (cs' := asC p { S with state := 3, known := true, other := tag }) rfl (by kernel_rfl) rfl rfl rfl pul (by show 5 < 17; decide) rfl) ?_
  rintro _ _ rfl
  refine TL.val rfl rfl rfl (Y.nilCheck rfl rfl) ?_
  refine TL.val rfl rfl rfl (by first | exact Y.fieldAddrJ rfl fo68_6 rfl nqq | exact Y.fieldAddr rfl fo68_6 rfl nqq) ?_
  refine TL.eff0 rfl rfl (X.store (cs' := asC p (S.opened tag tsn)) rfl (by kernel_rfl) rfl rfl rfl pul (by show 6 < 17; decide) rfl) ?_
  rintro _ _ rfl
  refine TL.nil ?_
  refine TQ.block_normal ?_
  refine TQ.next ?_
  refine TC.seq ?_
  refine TC.region ?_
  refine TL.val rfl rfl rfl (Y.move rfl rfl) ?_
  refine TL.val rfl rfl rfl (Y.nilCheck rfl rfl) ?_
  refine TL.val rfl rfl rfl (by first | exact Y.fieldAddrJ rfl fo68_5 rfl nqq | exact Y.fieldAddr rfl fo68_5 rfl nqq) ?_
  refine TL.val rfl rfl rfl (Y.load rfl sc22 rfl cel32) ?_
  refine TL.as (v32 tag) (by rfl) ?_
  refine TL.eff rfl rfl rfl (X.call rfl Try.func44 (by kernel_rfl) rfl rfl (Fn.preE (by repeat first | (with_reducible apply Ent.refl) | (apply Ent.cons; case h => first | (with_reducible (repeat first | apply Pull.here | apply Pull.there); done) | (repeat first | apply Pull.here | apply Pull.there))) (packet_fn tag 4 _))) ?_
  rintro _ _ ⟨a66, c66, rfl, rfl⟩
  refine TL.eff rfl rfl rfl (X.lit rfl el24 rfl rfl rfl (by decide) rfl) ?_
  rintro _ _ ⟨g67, rfl, rfl⟩
  refine TL.val rfl rfl rfl (Y.assign rfl rfl) ?_
  refine TL.val rfl rfl rfl (Y.assign rfl rfl) ?_
  refine TL.val rfl rfl rfl (Y.assign rfl rfl) ?_
  refine TL.nil ?_
  refine TQ.next ?_
  refine TC.ret ?_
  refine TQ.retE (resL rfl (Res.tmp rfl (Res.tmp rfl (Res.tmp rfl Res.nil)))) (⟨⟨some ⟨g67, 0, none⟩, 1, [⟨a66, c66, pkt tag 4⟩]⟩, rfl, rfl, rfl⟩) ?_
  exact (Ent.trans (Ent.one1 (a := a66) (g := g67) (n := 8) (l := pkt tag 4) pul pul rfl) ett)
theorem cookied_no (h : c = cookieB S (num (c.take 4)) (num ((c.drop 4).take 4))) (h0 : S.state ≠ 0) (h3 : S.state ≠ 3 ∨ S.other ≠ num (c.take 4)) (L : List SA) :
    Fn Try.prog 33 [pt b 0, pt rb 0] (rd.R rb c false :: aB b p S :: aS p S :: L) (fun v L' => v = .tuple #[.slice none 0 0, .slice none 0 0, vN 9] ∧ L' = aB b p S :: aS p S :: L) := by
  refine Fn.of (N := 68) Try.func33 rfl rfl ?_
  intro Xh
  obtain ⟨tag, htag⟩ : ∃ t, t = num (c.take 4) := ⟨_, rfl⟩
  obtain ⟨tsn, htsn⟩ : ∃ t, t = num ((c.drop 4).take 4) := ⟨_, rfl⟩
  rw [← htag, ← htsn] at h
  try rw [← htag]
  try rw [← htsn]
  try rw [← htag] at h3
  try rw [← htag] at ho
  refine TC.seq ?_
  refine TC.region ?_
  refine TL.val rfl rfl rfl (Y.assign rfl rfl) ?_
  refine TL.val rfl rfl rfl (Y.assign rfl rfl) ?_
  refine TL.val rfl rfl rfl (Y.assign rfl rfl) ?_
  refine TL.nil ?_
  refine TQ.next ?_
  refine TC.seq ?_
  refine TC.region ?_
  refine TL.val rfl rfl rfl (Y.move rfl rfl) ?_
  refine TL.eff rfl rfl rfl (X.call rfl Try.func35 (by kernel_rfl) rfl rfl (Fn.preE (by repeat first | (with_reducible apply Ent.refl) | (apply Ent.cons; case h => first | (with_reducible (repeat first | apply Pull.here | apply Pull.there); done) | (repeat first | apply Pull.here | apply Pull.there))) (take_ok rb 36 c (by omega) (by omega) _))) ?_
  rintro _ _ ⟨a12, c12, rfl, rfl⟩
  rw [List.take_of_length_le (by omega : c.length ≤ 36)]
  refine TL.val rfl rfl rfl (Y.assign rfl rfl) ?_
  refine TL.nil ?_
  refine TQ.next ?_
  refine TC.seq ?_
  refine TC.to ((Pull.ent (A := SA.owns 5 1 (.slice a12 36 c12) 36 (c.map v8)) pul).trans Ent.freeze) ?_
  refine TC.region ?_
  refine TL.val rfl rfl rfl (Y.move rfl rfl) ?_
  refine TL.eff rfl rfl rfl (X.call rfl Try.func26 (by kernel_rfl) rfl rfl (Fn.preE (by repeat first | (with_reducible apply Ent.refl) | (apply Ent.cons; case h => first | (with_reducible (repeat first | apply Pull.here | apply Pull.there); done) | (repeat first | apply Pull.here | apply Pull.there))) (rd.New_fn a12 36 c12 c hc (by decide) _))) ?_
  rintro _ _ ⟨p14, rfl, rfl⟩
  refine TL.val rfl rfl rfl (Y.assign rfl rfl) ?_
  refine TL.nil ?_
  refine TQ.next ?_
  refine TC.seq ?_
  refine TC.region ?_
  refine TL.val rfl rfl rfl (Y.move rfl rfl) ?_
  refine TL.eff rfl rfl rfl (X.call rfl Try.func27 (by kernel_rfl) rfl rfl (Fn.preE (by repeat first | (with_reducible apply Ent.refl) | (apply Ent.cons; case h => first | (with_reducible (repeat first | apply Pull.here | apply Pull.there); done) | (repeat first | apply Pull.here | apply Pull.there))) (u32_ok p14 c (by omega) _))) ?_
  rintro _ _ ⟨rfl, rfl⟩
  rw [← htag]
  refine TL.val rfl rfl rfl (Y.move rfl rfl) ?_
  refine TL.eff rfl rfl rfl (X.call rfl Try.func27 (by kernel_rfl) rfl rfl (Fn.preE (by repeat first | (with_reducible apply Ent.refl) | (apply Ent.cons; case h => first | (with_reducible (repeat first | apply Pull.here | apply Pull.there); done) | (repeat first | apply Pull.here | apply Pull.there))) (u32_ok p14 (c.drop 4) (by rw [List.length_drop]; omega) _))) ?_
  rintro _ _ ⟨rfl, rfl⟩
  rw [← htsn]
  refine TL.val rfl rfl rfl (Y.assign rfl rfl) ?_
  refine TL.val rfl rfl rfl (Y.assign rfl rfl) ?_
  refine TL.nil ?_
  refine TQ.next ?_
  refine TC.seq ?_
  refine TC.block ?_
  refine TC.seq ?_
  refine TC.region ?_
  refine TL.val rfl rfl rfl (Y.move rfl rfl) ?_
  refine TL.val rfl rfl rfl (Y.move rfl rfl) ?_
  refine TL.val rfl rfl rfl (Y.move rfl rfl) ?_
  refine TL.val rfl rfl rfl (Y.move rfl rfl) ?_
  refine TL.eff rfl rfl rfl (X.call rfl Try.func49 (by kernel_rfl) rfl rfl (Fn.preE (by repeat first | (with_reducible apply Ent.refl) | (apply Ent.cons; case h => first | (with_reducible (repeat first | apply Pull.here | apply Pull.there); done) | (repeat first | apply Pull.here | apply Pull.there))) (cookie_fn b p S tag tsn hs _))) ?_
  rintro _ _ ⟨a24, c24, rfl, rfl⟩
  refine TL.eff rfl rfl rfl (X.call rfl Try.func50 (by kernel_rfl) rfl rfl (Fn.preE (by repeat first | (with_reducible apply Ent.refl) | (apply Ent.cons; case h => first | (with_reducible (repeat first | apply Pull.here | apply Pull.there); done) | (repeat first | apply Pull.here | apply Pull.there))) (Equal_fn (SA.rds 1 (.slice a12 36 c12) 36 (c.map v8)) (SA.owns 5 1 (.slice a24 36 c24) 36 ((cookieB S tag tsn).map v8)) a12 36 c12 c a24 36 c24 (cookieB S tag tsn) Reads.rds Reads.owns _))) ?_
  rintro _ _ ⟨rfl, rfl⟩
  refine TL.val rfl rfl rfl (Y.not rfl rfl) ?_
  refine TL.is false (by (rw [decide_eq_true h]; rfl)) ?_
  refine TL.val rfl rfl rfl (Y.assign rfl rfl) ?_
  refine TL.nil ?_
  refine TQ.next ?_
  refine TC.cond_f rfl ?_
  refine TC.seq ?_
  refine TC.region ?_
  refine TL.val rfl rfl rfl (Y.move rfl rfl) ?_
  refine TL.val rfl rfl rfl (Y.nilCheck rfl rfl) ?_
  refine TL.val rfl rfl rfl (by first | exact Y.fieldAddrJ rfl fo68_3 rfl nqq | exact Y.fieldAddr rfl fo68_3 rfl nqq) ?_
  refine TL.val rfl rfl rfl (Y.load rfl sc3 rfl celN) ?_
  refine TL.as (vN S.state) (by rfl) ?_
  refine TL.val rfl rfl rfl (Y.bin rfl rfl rfl (br_eqN (n := 0))) ?_
  refine TL.is false (by simpa using h0) ?_
  refine TL.val rfl rfl rfl (Y.assign rfl rfl) ?_
  refine TL.nil ?_
  refine TQ.next ?_
  refine TC.cond_f rfl ?_
  refine TC.seq ?_
  refine TC.region ?_
  refine TL.val rfl rfl rfl (Y.move rfl rfl) ?_
  refine TL.val rfl rfl rfl (Y.nilCheck rfl rfl) ?_
  refine TL.val rfl rfl rfl (by first | exact Y.fieldAddrJ rfl fo68_3 rfl nqq | exact Y.fieldAddr rfl fo68_3 rfl nqq) ?_
  refine TL.val rfl rfl rfl (Y.load rfl sc3 rfl celN) ?_
  refine TL.as (vN S.state) (by rfl) ?_
  refine TL.val rfl rfl rfl (Y.bin rfl rfl rfl (br_neN (n := 3))) ?_
  refine TL.val rfl rfl rfl (Y.move rfl rfl) ?_
  refine TL.case (fun g8_5 => ?_) (fun g8_5 => ?_)
  · try simp only [decide_eq_true_eq, decide_eq_false_iff_not, Bool.not_eq_true', Bool.not_eq_false', Nat.not_lt, Nat.not_le, beq_iff_eq, bne_iff_ne] at g8_5
    refine TL.not rfl rfl rfl ?_
    refine TL.not rfl rfl rfl ?_
    refine TL.not rfl rfl rfl ?_
    refine TL.not rfl rfl rfl ?_
    refine TL.not rfl rfl rfl ?_
    refine TL.not rfl rfl rfl ?_
    refine TL.val rfl rfl rfl (Y.pick_t rfl rfl rfl) ?_
    refine TL.val rfl rfl rfl (Y.assign rfl rfl) ?_
    refine TL.nil ?_
    refine TQ.next ?_
    refine TC.cond_t rfl ?_
    refine TC.seq ?_
    refine TC.region ?_
    refine TL.val rfl rfl rfl (Y.assign rfl rfl) ?_
    refine TL.val rfl rfl rfl (Y.assign rfl rfl) ?_
    refine TL.val rfl rfl rfl (Y.assign rfl rfl) ?_
    refine TL.nil ?_
    refine TQ.next ?_
    refine TC.ret ?_
    refine TQ.block_ret ?_
    refine TQ.then_ret ?_
    refine TQ.retE (resL rfl (Res.tmp rfl (Res.tmp rfl (Res.tmp rfl Res.nil)))) (⟨rfl, rfl⟩) ?_
    exact ett
  · try simp only [decide_eq_true_eq, decide_eq_false_iff_not, Bool.not_eq_true', Bool.not_eq_false', Nat.not_lt, Nat.not_le, beq_iff_eq, bne_iff_ne] at g8_5
    refine TL.valG rfl rfl rfl (Y.move rfl rfl) ?_
    refine TL.valG rfl rfl rfl (Y.nilCheck rfl rfl) ?_
    refine TL.valG rfl rfl rfl (by first | exact Y.fieldAddrJ rfl fo68_5 rfl nqq | exact Y.fieldAddr rfl fo68_5 rfl nqq) ?_
    refine TL.valG rfl rfl rfl (Y.load rfl sc22 rfl cel32) ?_
    refine TL.as (v32 S.other) (by rfl) ?_
    refine TL.valG rfl rfl rfl (Y.move rfl rfl) ?_
    refine TL.valG rfl rfl rfl (Y.bin rfl rfl rfl (br_ne32)) ?_
    refine TL.is true (by (simp; rcases h3 with h3 | h3; (exact absurd (by simpa using g8_5) h3); exact h3)) ?_
    refine TL.val rfl rfl rfl (Y.pick_f rfl rfl rfl) ?_
    refine TL.val rfl rfl rfl (Y.assign rfl rfl) ?_
    refine TL.nil ?_
    refine TQ.next ?_
    refine TC.cond_t rfl ?_
    refine TC.seq ?_
    refine TC.region ?_
    refine TL.val rfl rfl rfl (Y.assign rfl rfl) ?_
    refine TL.val rfl rfl rfl (Y.assign rfl rfl) ?_
    refine TL.val rfl rfl rfl (Y.assign rfl rfl) ?_
    refine TL.nil ?_
    refine TQ.next ?_
    refine TC.ret ?_
    refine TQ.block_ret ?_
    refine TQ.then_ret ?_
    refine TQ.retE (resL rfl (Res.tmp rfl (Res.tmp rfl (Res.tmp rfl Res.nil)))) (⟨rfl, rfl⟩) ?_
    exact ett
theorem cookied_again (h : c = cookieB S (num (c.take 4)) (num ((c.drop 4).take 4))) (h3 : S.state = 3) (ho : S.other = num (c.take 4)) (L : List SA) :
    Fn Try.prog 33 [pt b 0, pt rb 0] (rd.R rb c false :: aB b p S :: aS p S :: L)
      (fun v L' => ∃ o : Sl Bs, v = .tuple #[o.v, .slice none 0 0, vN 0] ∧ o.l.map (·.l) = [pkt S.other 4] ∧ L' = SA.dat o :: aB b p S :: aS p S :: L) := by
  refine Fn.of (N := 68) Try.func33 rfl rfl ?_
  intro Xh
  obtain ⟨tag, htag⟩ : ∃ t, t = num (c.take 4) := ⟨_, rfl⟩
  obtain ⟨tsn, htsn⟩ : ∃ t, t = num ((c.drop 4).take 4) := ⟨_, rfl⟩
  rw [← htag, ← htsn] at h
  try rw [← htag]
  try rw [← htsn]
  try rw [← htag] at h3
  try rw [← htag] at ho
  refine TC.seq ?_
  refine TC.region ?_
  refine TL.val rfl rfl rfl (Y.assign rfl rfl) ?_
  refine TL.val rfl rfl rfl (Y.assign rfl rfl) ?_
  refine TL.val rfl rfl rfl (Y.assign rfl rfl) ?_
  refine TL.nil ?_
  refine TQ.next ?_
  refine TC.seq ?_
  refine TC.region ?_
  refine TL.val rfl rfl rfl (Y.move rfl rfl) ?_
  refine TL.eff rfl rfl rfl (X.call rfl Try.func35 (by kernel_rfl) rfl rfl (Fn.preE (by repeat first | (with_reducible apply Ent.refl) | (apply Ent.cons; case h => first | (with_reducible (repeat first | apply Pull.here | apply Pull.there); done) | (repeat first | apply Pull.here | apply Pull.there))) (take_ok rb 36 c (by omega) (by omega) _))) ?_
  rintro _ _ ⟨a12, c12, rfl, rfl⟩
  rw [List.take_of_length_le (by omega : c.length ≤ 36)]
  refine TL.val rfl rfl rfl (Y.assign rfl rfl) ?_
  refine TL.nil ?_
  refine TQ.next ?_
  refine TC.seq ?_
  refine TC.to ((Pull.ent (A := SA.owns 5 1 (.slice a12 36 c12) 36 (c.map v8)) pul).trans Ent.freeze) ?_
  refine TC.region ?_
  refine TL.val rfl rfl rfl (Y.move rfl rfl) ?_
  refine TL.eff rfl rfl rfl (X.call rfl Try.func26 (by kernel_rfl) rfl rfl (Fn.preE (by repeat first | (with_reducible apply Ent.refl) | (apply Ent.cons; case h => first | (with_reducible (repeat first | apply Pull.here | apply Pull.there); done) | (repeat first | apply Pull.here | apply Pull.there))) (rd.New_fn a12 36 c12 c hc (by decide) _))) ?_
  rintro _ _ ⟨p14, rfl, rfl⟩
  refine TL.val rfl rfl rfl (Y.assign rfl rfl) ?_
  refine TL.nil ?_
  refine TQ.next ?_
  refine TC.seq ?_
  refine TC.region ?_
  refine TL.val rfl rfl rfl (Y.move rfl rfl) ?_
  refine TL.eff rfl rfl rfl (X.call rfl Try.func27 (by kernel_rfl) rfl rfl (Fn.preE (by repeat first | (with_reducible apply Ent.refl) | (apply Ent.cons; case h => first | (with_reducible (repeat first | apply Pull.here | apply Pull.there); done) | (repeat first | apply Pull.here | apply Pull.there))) (u32_ok p14 c (by omega) _))) ?_
  rintro _ _ ⟨rfl, rfl⟩
  rw [← htag]
  refine TL.val rfl rfl rfl (Y.move rfl rfl) ?_
  refine TL.eff rfl rfl rfl (X.call rfl Try.func27 (by kernel_rfl) rfl rfl (Fn.preE (by repeat first | (with_reducible apply Ent.refl) | (apply Ent.cons; case h => first | (with_reducible (repeat first | apply Pull.here | apply Pull.there); done) | (repeat first | apply Pull.here | apply Pull.there))) (u32_ok p14 (c.drop 4) (by rw [List.length_drop]; omega) _))) ?_
  rintro _ _ ⟨rfl, rfl⟩
  rw [← htsn]
  refine TL.val rfl rfl rfl (Y.assign rfl rfl) ?_
  refine TL.val rfl rfl rfl (Y.assign rfl rfl) ?_
  refine TL.nil ?_
  refine TQ.next ?_
  refine TC.seq ?_
  refine TC.block ?_
  refine TC.seq ?_
  refine TC.region ?_
  refine TL.val rfl rfl rfl (Y.move rfl rfl) ?_
  refine TL.val rfl rfl rfl (Y.move rfl rfl) ?_
  refine TL.val rfl rfl rfl (Y.move rfl rfl) ?_
  refine TL.val rfl rfl rfl (Y.move rfl rfl) ?_
  refine TL.eff rfl rfl rfl (X.call rfl Try.func49 (by kernel_rfl) rfl rfl (Fn.preE (by repeat first | (with_reducible apply Ent.refl) | (apply Ent.cons; case h => first | (with_reducible (repeat first | apply Pull.here | apply Pull.there); done) | (repeat first | apply Pull.here | apply Pull.there))) (cookie_fn b p S tag tsn hs _))) ?_
  rintro _ _ ⟨a24, c24, rfl, rfl⟩
  refine TL.eff rfl rfl rfl (X.call rfl Try.func50 (by kernel_rfl) rfl rfl (Fn.preE (by repeat first | (with_reducible apply Ent.refl) | (apply Ent.cons; case h => first | (with_reducible (repeat first | apply Pull.here | apply Pull.there); done) | (repeat first | apply Pull.here | apply Pull.there))) (Equal_fn (SA.rds 1 (.slice a12 36 c12) 36 (c.map v8)) (SA.owns 5 1 (.slice a24 36 c24) 36 ((cookieB S tag tsn).map v8)) a12 36 c12 c a24 36 c24 (cookieB S tag tsn) Reads.rds Reads.owns _))) ?_
  rintro _ _ ⟨rfl, rfl⟩
  refine TL.val rfl rfl rfl (Y.not rfl rfl) ?_
  refine TL.is false (by (rw [decide_eq_true h]; rfl)) ?_
  refine TL.val rfl rfl rfl (Y.assign rfl rfl) ?_
  refine TL.nil ?_
  refine TQ.next ?_
  refine TC.cond_f rfl ?_
  refine TC.seq ?_
  refine TC.region ?_
  refine TL.val rfl rfl rfl (Y.move rfl rfl) ?_
  refine TL.val rfl rfl rfl (Y.nilCheck rfl rfl) ?_
  refine TL.val rfl rfl rfl (by first | exact Y.fieldAddrJ rfl fo68_3 rfl nqq | exact Y.fieldAddr rfl fo68_3 rfl nqq) ?_
  refine TL.val rfl rfl rfl (Y.load rfl sc3 rfl celN) ?_
  refine TL.as (vN S.state) (by rfl) ?_
  refine TL.val rfl rfl rfl (Y.bin rfl rfl rfl (br_eqN (n := 0))) ?_
  refine TL.is false (by (simp; omega)) ?_
  refine TL.val rfl rfl rfl (Y.assign rfl rfl) ?_
  refine TL.nil ?_
  refine TQ.next ?_
  refine TC.cond_f rfl ?_
  refine TC.seq ?_
  refine TC.region ?_
  refine TL.val rfl rfl rfl (Y.move rfl rfl) ?_
  refine TL.val rfl rfl rfl (Y.nilCheck rfl rfl) ?_
  refine TL.val rfl rfl rfl (by first | exact Y.fieldAddrJ rfl fo68_3 rfl nqq | exact Y.fieldAddr rfl fo68_3 rfl nqq) ?_
  refine TL.val rfl rfl rfl (Y.load rfl sc3 rfl celN) ?_
  refine TL.as (vN S.state) (by rfl) ?_
  refine TL.val rfl rfl rfl (Y.bin rfl rfl rfl (br_neN (n := 3))) ?_
  refine TL.is false (by simpa using h3) ?_
  refine TL.val rfl rfl rfl (Y.move rfl rfl) ?_
  refine TL.valG rfl rfl rfl (Y.move rfl rfl) ?_
  refine TL.valG rfl rfl rfl (Y.nilCheck rfl rfl) ?_
  refine TL.valG rfl rfl rfl (by first | exact Y.fieldAddrJ rfl fo68_5 rfl nqq | exact Y.fieldAddr rfl fo68_5 rfl nqq) ?_
  refine TL.valG rfl rfl rfl (Y.load rfl sc22 rfl cel32) ?_
  refine TL.as (v32 S.other) (by rfl) ?_
  refine TL.valG rfl rfl rfl (Y.move rfl rfl) ?_
  refine TL.valG rfl rfl rfl (Y.bin rfl rfl rfl (br_ne32)) ?_
  refine TL.is false (by (simp; exact ho)) ?_
  refine TL.val rfl rfl rfl (Y.pick_f rfl rfl rfl) ?_
  refine TL.val rfl rfl rfl (Y.assign rfl rfl) ?_
  refine TL.nil ?_
  refine TQ.next ?_
  refine TC.cond_f rfl ?_
  refine TC.skip ?_
  refine TQ.block_normal ?_
  refine TQ.next ?_
  refine TC.seq ?_
  refine TC.region ?_
  refine TL.val rfl rfl rfl (Y.move rfl rfl) ?_
  refine TL.val rfl rfl rfl (Y.nilCheck rfl rfl) ?_
  refine TL.val rfl rfl rfl (by first | exact Y.fieldAddrJ rfl fo68_5 rfl nqq | exact Y.fieldAddr rfl fo68_5 rfl nqq) ?_
  refine TL.val rfl rfl rfl (Y.load rfl sc22 rfl cel32) ?_
  refine TL.as (v32 S.other) (by rfl) ?_
  refine TL.eff rfl rfl rfl (X.call rfl Try.func44 (by kernel_rfl) rfl rfl (Fn.preE (by repeat first | (with_reducible apply Ent.refl) | (apply Ent.cons; case h => first | (with_reducible (repeat first | apply Pull.here | apply Pull.there); done) | (repeat first | apply Pull.here | apply Pull.there))) (packet_fn S.other 4 _))) ?_
  rintro _ _ ⟨a66, c66, rfl, rfl⟩
  refine TL.eff rfl rfl rfl (X.lit rfl el24 rfl rfl rfl (by decide) rfl) ?_
  rintro _ _ ⟨g67, rfl, rfl⟩
  refine TL.val rfl rfl rfl (Y.assign rfl rfl) ?_
  refine TL.val rfl rfl rfl (Y.assign rfl rfl) ?_
  refine TL.val rfl rfl rfl (Y.assign rfl rfl) ?_
  refine TL.nil ?_
  refine TQ.next ?_
  refine TC.ret ?_
  refine TQ.retE (resL rfl (Res.tmp rfl (Res.tmp rfl (Res.tmp rfl Res.nil)))) (⟨⟨some ⟨g67, 0, none⟩, 1, [⟨a66, c66, pkt S.other 4⟩]⟩, rfl, rfl, rfl⟩) ?_
  exact (Ent.trans (Ent.one1 (a := a66) (g := g67) (n := 8) (l := pkt S.other 4) pul pul rfl) ett)
end
end ac
end Go.Proofs.Ytomplpdeeomehaa
