/- The logic and the walks, in one text with others: part 4 of 4. -/
import Derived.Test.YthamkpjiecigjaaRk3
/- twcc, read and written: the document's Parse of the two packets; walked. -/
namespace Go.Proofs.Ythamkpjiecigjaa
set_option linter.unusedVariables false
set_option linter.unusedSimpArgs false
open Go.RowKit
namespace tw
namespace FxTr8
set_option maxRecDepth 100000
theorem ag46 : Program.aggN Try.prog 46 = some 16 := by kernel_rfl
theorem el56 : Elt Try.prog 56 46 16 192 (.agg #[.int .i64 0, .int .u32 0, .int .u32 0, .int .u64 0, .int .u32 0, .int .u32 0, .int .u32 0, .slice none 0 0, .string .empty, .slice none 0 0, .slice none 0 0, .int .u16 0, .int .u32 0, .int .u8 0, .slice none 0 0, .slice none 0 0]) := ⟨Try.underlying56, by kernel_rfl, rfl, by decide, by simp [Value.cells, Value.oneCell']⟩
theorem sz46 : (Try.prog.info? 46).map (·.size) = some 16 := by kernel_rfl
theorem sz5 : (Try.prog.info? 5).map (·.size) = some 1 := by kernel_rfl
theorem zc46 : Program.zeroC Try.prog 46 = some #[.int .i64 0, .int .u32 0, .int .u32 0, .int .u64 0, .int .u32 0, .int .u32 0, .int .u32 0, .slice none 0 0, .string .empty, .slice none 0 0, .slice none 0 0, .int .u16 0, .int .u32 0, .int .u8 0, .slice none 0 0, .slice none 0 0] := by kernel_rfl
end FxTr8
open FxTr8
def P6.cs (p : P6) (a : Option Addr) (cap : Nat) : Nat → List Value
  | 0 => []
  | k + 1 => p.cs a cap k ++ (p.f a cap k).A.toList
theorem P6.cs_s (p : P6) (a a' : Option Addr) (c c' k : Nat) (h : k < 2) : p.cs a c k ++ (p.f a' c' k).A.toList = p.cs a' c' (k + 1) := by
  match k, h with
  | 0, _ => rfl
  | 1, _ => rfl
/-- the arrivals that stand once k are read -/
def P6.arr (p : P6) (a : Option Addr) (cap : Nat) : Nat → SA
  | 0 => nilR
  | 1 => nilR
  | _ + 2 => p.R a cap
theorem P6.split (p : P6) (k : Nat) (h : k < 2) : ∃ t, p.wire 2 = p.wire k ++ (p.enc k ++ t) := by
  match k, h with
  | 0, _ => exact ⟨p.enc 1, rfl⟩
  | 1, _ => exact ⟨[], by rw [List.append_nil]; rfl⟩
theorem P6.wire_s (p : P6) (k : Nat) : (p.wire (k + 1)).length = (p.wire k).length + (p.enc k).length := List.length_append
theorem P6.wk (p : P6) (k : Nat) (h : k ≤ 2) : k = 0 ∧ (p.wire k).length = 0 ∨ k = 1 ∧ (p.wire k).length = 8 ∨ k = 2 ∧ (p.wire k).length = (p.wire 2).length := by
  match k, h with
  | 0, _ => exact Or.inl ⟨rfl, rfl⟩
  | 1, _ => exact Or.inr (Or.inl ⟨rfl, rfl⟩)
  | 2, _ => exact Or.inr (Or.inr ⟨rfl, rfl⟩)
theorem P6.w2 (p : P6) (ok : p.ok) : (p.wire 2).length = 8 + (p.enc 1).length ∧ 20 ≤ (p.enc 1).length := by
  refine ⟨?_, ?_⟩
  · rw [p.wire_s 1]; rfl
  · have := (Q6.e6 ok).len; show 20 ≤ (e6 _ _ _ _ _ _).length; omega
/-- the length that is told at a packet's head -/
theorem P6.told (p : P6) (ok : p.ok) (k : Nat) (h : k < 2) : 4 + 4 * at2 (p.wire 2) ((p.wire k).length + 2) = (p.enc k).length := by
  obtain ⟨t, ht⟩ := p.split k h
  match k, h with
  | 0, _ =>
    rw [ht]
    show 4 + 4 * at2 ([128, 201] ++ (r1.be2 1 ++ ([0, 0, 0, 0] ++ t))) 2 = 8
    rw [at2_be [128, 201] _ 1 2 rfl (by decide)]
  | 1, _ =>
    rw [ht]
    have hm := pad4_mod (body6 p.s p.m p.b p.r p.c p.l)
    have hl := p.enc_len ok 1
    have hle : (p.enc 1).length = 4 + (pad4 (body6 p.s p.m p.b p.r p.c p.l)).length := by
      show (e6 _ _ _ _ _ _).length = _
      unfold e6; simp only [List.length_append, r1.be2_len, List.length_cons, List.length_nil]; omega
    have e : p.wire 1 ++ (p.enc 1 ++ t) = (p.wire 1 ++ [143, 205]) ++ (r1.be2 ((pad4 (body6 p.s p.m p.b p.r p.c p.l)).length / 4) ++ (pad4 (body6 p.s p.m p.b p.r p.c p.l) ++ t)) := by
      show p.wire 1 ++ (e6 _ _ _ _ _ _ ++ t) = _
      unfold e6; simp only [List.append_assoc]
    rw [e, at2_be _ _ _ _ (by rw [List.length_append]; rfl) (by omega), hle]
    omega
theorem read_pk {p : P6} (ok : p.ok) (k : Nat) (hk : k < 2) (A : SA) (g off cap : Nat) (hA : Reads A 1 (.slice (some ⟨g, off, none⟩) (p.enc k).length cap) (p.enc k).length ((p.enc k).map v8)) (L : List SA) :
    Fn Try.prog 30 [.slice (some ⟨g, off, none⟩) (p.enc k).length cap] (A :: L)
      (fun v L' => ∃ a' c', v = .tuple #[.agg (p.f a' c' k).A, .bool true] ∧ L' = p.arr a' c' (k + 1) :: A :: L) := by
  match k, hk with
  | 0, _ =>
    refine (read2_fn A g off cap hA L).mono ?_
    rintro v L' ⟨rfl, rfl⟩
    exact ⟨_, Ent.nilR, none, 0, rfl, rfl⟩
  | 1, _ =>
    refine (read6_fn ok (p.enc 1) (Q6.e6 ok) A g off _ cap hA rfl L).mono ?_
    rintro v L' ⟨a', c', rfl, rfl⟩
    exact ⟨_, Ent.freeze, a', c', rfl, rfl⟩
theorem Reads.seg {p : P6} {k : Nat} (hk : k < 2) {A : SA} {g off n cap : Nat} (hA : Reads A 1 (.slice (some ⟨g, off, none⟩) n cap) n ((p.wire 2).map v8)) (hn : (p.wire 2).length = n) (hc : (p.wire k).length < cap) :
    Reads A 1 (.slice (some ⟨g, off + (p.wire k).length, none⟩) (p.enc k).length (cap - (p.wire k).length)) (p.enc k).length ((p.enc k).map v8) := by
  obtain ⟨t, ht⟩ := p.split k hk
  have h := Reads.cut8 (k := (p.wire k).length) (h := (p.wire k).length + (p.enc k).length) hA (by omega) (by rw [← hn, ht]; simp only [List.length_append]; omega)
  rw [cutV_some hc, show (p.wire k).length + (p.enc k).length - (p.wire k).length = (p.enc k).length by omega, Nat.mul_one] at h
  rw [show ((p.wire 2).drop (p.wire k).length).take (p.enc k).length = p.enc k by rw [ht, List.drop_left, List.take_left]] at h
  exact h
set_option maxHeartbeats 2000000 in
theorem Parse_fn {p : P6} (ok : p.ok) (A : SA) (g off n cap : Nat) (hA : Reads A 1 (.slice (some ⟨g, off, none⟩) n cap) n ((p.wire 2).map v8)) (hn : (p.wire 2).length = n) (L : List SA) :
    Fn Try.prog 16 [.slice (some ⟨g, off, none⟩) n cap] (A :: L)
      (fun v L' => ∃ g' off' pc ra rcap, v = .tuple #[.slice (some ⟨g', off', none⟩) 2 pc, vN 0] ∧ L' = SA.owns 46 16 (.slice (some ⟨g', off', none⟩) 2 pc) 2 (p.cells ra rcap) :: p.R ra rcap :: A :: L) := by
  have h2 := p.w2 ok
  have hel := p.enc_len ok 1
  refine Fn.of (N := 75) Try.func16 rfl rfl ?_
  intro Xh
  refine TC.know (reads_cap hA (a := some ⟨g, off, none⟩) (n := n) (cap := cap) (cs := (p.wire 2).map v8) inn) ?_
  rintro ⟨hc1, hc2, -, -⟩
  simp only [maxLen] at hc2
  refine TC.seq ?_
  refine TC.region ?_
  refine TL.val rfl rfl rfl (Y.assign rfl rfl) ?_
  refine TL.val rfl rfl rfl (Y.assign rfl rfl) ?_
  refine TL.nil ?_
  refine TQ.next ?_
  refine TC.seq ?_
  refine TC.region ?_
  refine TL.val rfl rfl rfl (Y.assign rfl rfl) ?_
  refine TL.nil ?_
  refine TQ.next ?_
  refine TC.seq ?_
  refine TC.seq ?_
  refine TC.region ?_
  refine TL.val rfl rfl rfl (Y.assign rfl rfl) ?_
  refine TL.nil ?_
  refine TQ.next ?_
  refine TC.block ?_
  refine TC.to (Ent.nilOwn 46 16) ?_
  refine TC.to Ent.nilR ?_
  refine TC.loopF (ι := Nat × (Option Addr × Nat) × Option Addr × Nat) [2, 3] (fun i => i.1 ≤ 2) (fun i => [(5, some (vN (p.wire i.1).length)), (4, some (.slice i.2.1.1 i.1 i.2.1.2))]) (fun i => [SA.owns 46 16 (.slice i.2.1.1 i.1 i.2.1.2) i.1 (p.cs i.2.2.1 i.2.2.2 i.1), p.arr i.2.2.1 i.2.2.2 i.1]) (fun i => 2 - i.1) ((0, (none, 0), none, 0)) (Nat.zero_le _) ⟨rfl, rfl, trivial⟩ (Pulls.cons pul (Pulls.cons pul Pulls.nil)) ?_
  rintro ⟨k, ⟨pa, pc⟩, ra, rcap⟩ hk F' L' rfl hL'
  simp only [List.cons_append, List.nil_append] at hL'
  subst hL'
  simp only at hk ⊢
  have hwk := p.wk k hk
  refine TC.seq ?_
  refine TC.seq ?_
  refine TC.region ?_
  refine TL.val rfl rfl rfl (Y.move rfl rfl) ?_
  refine TL.val rfl rfl rfl (Y.move rfl rfl) ?_
  refine TL.val rfl rfl rfl (Y.len rfl Try.underlying52 rfl) ?_
  refine TL.val rfl rfl rfl (Y.bin rfl rfl rfl (br_ltN)) ?_
  refine TL.nil ?_
  refine TQ.next ?_
  refine TC.cond rfl (fun c0 => ?_) (fun c0 => ?_)
  · try simp only [decide_eq_true_eq, decide_eq_false_iff_not, Bool.not_eq_true', Bool.not_eq_false', Bool.and_eq_true, Bool.or_eq_true, Nat.not_lt, Nat.not_le, beq_iff_eq, bne_iff_ne] at c0
    have hk2 : k < 2 := by omega
    have hws := p.wire_s k
    have hek := p.enc_len ok k
    have htold := p.told ok k hk2
    have hn2 := num_lt2 (p.wire 2) ((p.wire k).length + 2)
    have hsp : (p.wire k).length + (p.enc k).length ≤ n := by
      obtain ⟨t, ht⟩ := p.split k hk2
      rw [← hn, ht]; simp only [List.length_append]; omega
    refine TC.skip ?_
    refine TQ.next ?_
    refine TC.block ?_
    refine TC.seq ?_
    refine TC.seq ?_
    refine TC.region ?_
    refine TL.val rfl rfl rfl (Y.move rfl rfl) ?_
    refine TL.val rfl rfl rfl (Y.bin rfl rfl rfl (br_addN (n := 4) (by omega))) ?_
    refine TL.val rfl rfl rfl (Y.move rfl rfl) ?_
    refine TL.val rfl rfl rfl (Y.len rfl Try.underlying52 rfl) ?_
    refine TL.val rfl rfl rfl (Y.bin rfl rfl rfl (br_gtN)) ?_
    refine TL.is false (by (simp; omega)) ?_
    refine TL.val rfl rfl rfl (Y.move rfl rfl) ?_
    refine TL.valG rfl rfl rfl (Y.move rfl rfl) ?_
    refine TL.valG rfl rfl rfl (Y.len rfl Try.underlying56 rfl) ?_
    refine TL.valG rfl rfl rfl (Y.bin rfl rfl rfl (br_eqN (n := 8))) ?_
    refine TL.is false (by (simp; omega)) ?_
    refine TL.val rfl rfl rfl (Y.pick_f rfl rfl rfl) ?_
    refine TL.nil ?_
    refine TQ.next ?_
    refine TC.cond_f rfl ?_
    refine TC.skip ?_
    refine TQ.next ?_
    refine TC.seq ?_
    refine TC.region ?_
    refine TL.val rfl rfl rfl (Y.move rfl rfl) ?_
    refine TL.val rfl rfl rfl (Y.move rfl rfl) ?_
    refine TL.val rfl rfl rfl (Y.bin rfl rfl rfl (br_addN (n := 2) (by omega))) ?_
    refine TL.val rfl rfl rfl (Y.move rfl rfl) ?_
    refine TL.val rfl rfl rfl (Y.bin rfl rfl rfl (br_addN (n := 4) (by omega))) ?_
    refine TL.val rfl rfl rfl (Y.sliceLH rfl Try.underlying52 sz5 rfl rfl rfl (by omega) (by omega)) ?_
    refine TL.eff rfl rfl rfl (X.cl rfl Try.func29 rfl (h := (n2_fn A (some ⟨g, off, none⟩) n cap ((p.wire k).length + 2) ((p.wire k).length + 4) (p.wire 2) hA (by omega) (by omega) hn _))) ?_
    rintro _ _ ⟨rfl, rfl⟩
    refine TL.val rfl rfl rfl (Y.conv rfl Try.underlying33 Try.underlying3 rfl (cv_64_N (by omega))) ?_
    refine TL.as (vN (at2 (p.wire 2) ((p.wire k).length + 2))) (by rfl) ?_
    refine TL.val rfl rfl rfl (Y.bin rfl rfl rfl (br_mulN (m := 4) (by omega))) ?_
    refine TL.val rfl rfl rfl (Y.bin rfl rfl rfl (br_addN (m := 4) (by omega))) ?_
    refine TL.as (vN (p.enc k).length) (by (rw [← htold])) ?_
    refine TL.val rfl rfl rfl (Y.assign rfl rfl) ?_
    refine TL.nil ?_
    refine TQ.next ?_
    refine TC.seq ?_
    refine TC.seq ?_
    refine TC.region ?_
    refine TL.val rfl rfl rfl (Y.move rfl rfl) ?_
    refine TL.val rfl rfl rfl (Y.move rfl rfl) ?_
    refine TL.val rfl rfl rfl (Y.bin rfl rfl rfl (br_addN (by omega))) ?_
    refine TL.val rfl rfl rfl (Y.move rfl rfl) ?_
    refine TL.val rfl rfl rfl (Y.len rfl Try.underlying52 rfl) ?_
    refine TL.val rfl rfl rfl (Y.bin rfl rfl rfl (br_gtN)) ?_
    refine TL.is false (by (simp; omega)) ?_
    refine TL.nil ?_
    refine TQ.next ?_
    refine TC.cond_f rfl ?_
    refine TC.skip ?_
    refine TQ.next ?_
    refine TC.seq ?_
    refine TC.region ?_
    refine TL.val rfl rfl rfl (Y.move rfl rfl) ?_
    refine TL.val rfl rfl rfl (Y.move rfl rfl) ?_
    refine TL.val rfl rfl rfl (Y.move rfl rfl) ?_
    refine TL.val rfl rfl rfl (Y.move rfl rfl) ?_
    refine TL.val rfl rfl rfl (Y.bin rfl rfl rfl (br_addN (by omega))) ?_
    refine TL.val rfl rfl rfl (Y.sliceLH rfl Try.underlying52 sz5 rfl rfl rfl (by omega) (by omega)) ?_
    refine TL.as (.slice (some ⟨g, off + (p.wire k).length, none⟩) (p.enc k).length (cap - (p.wire k).length)) (by (rw [cutV_some (by omega), Nat.mul_one, show (p.wire k).length + (p.enc k).length - (p.wire k).length = (p.enc k).length by omega])) ?_
    refine TL.eff rfl rfl rfl (X.cl rfl Try.func30 rfl (h := (read_pk ok k hk2 A g (off + (p.wire k).length) (cap - (p.wire k).length) (Reads.seg hk2 hA hn (by omega)) _))) ?_
    rintro _ _ ⟨sa, sc, rfl, rfl⟩
    refine TL.val rfl rfl rfl (Y.move rfl rfl) ?_
    refine TL.val rfl rfl rfl (Y.extract rfl rfl rfl) ?_
    refine TL.val rfl rfl rfl (Y.extract rfl rfl rfl) ?_
    refine TL.eff rfl rfl rfl (X.alloc rfl zc46) ?_
    rintro _ _ ⟨b7, rfl, rfl⟩
    refine TL.eff0 rfl rfl (by first | exact X.storeAll rfl sz46 (by rfl) rfl rfl (allOne (by rfl)) pul (by rfl) | exact X.storeAll rfl sz46 szz rfl rfl (by simp [Value.oneCell']) pul szz | exact X.storeAgg rfl sz46 szz rfl rfl (by simp [Value.oneCell']) pul szz (writeM (by ((try simp only [List.length_set, List.length_map, List.length_append, List.length_replicate]); omega)))) ?_
    rintro _ _ rfl
    refine TL.val rfl rfl rfl (Y.assign rfl rfl) ?_
    refine TL.nil ?_
    refine TQ.next ?_
    refine TC.seq ?_
    refine TC.seq ?_
    refine TC.region ?_
    refine TL.val rfl rfl rfl (Y.move rfl rfl) ?_
    refine TL.val rfl rfl rfl (Y.not rfl rfl) ?_
    refine TL.is false isf ?_
    refine TL.nil ?_
    refine TQ.next ?_
    refine TC.cond_f rfl ?_
    refine TC.skip ?_
    refine TQ.next ?_
    refine TC.seq ?_
    refine TC.region ?_
    refine TL.val rfl rfl rfl (Y.move rfl rfl) ?_
    refine TL.val rfl rfl rfl (Y.loadAgg rfl ag46 rfl (Cels.all (cs := (p.f sa sc k).A) inn) (by first | rfl | ((try simp only [List.length_map, List.length_set, List.length_replicate]); omega))) ?_
    refine TL.as (.agg (p.f sa sc k).A) (by rfl) ?_
    refine TL.eff rfl rfl rfl (X.litA (sz := 16) (bytes := 0) (z := .nilFunc) (vs := [.agg (p.f sa sc k).A]) (cells := (p.f sa sc k).A.toList) rfl Try.underlying56 (by kernel_rfl) rfl rfl rfl (by decide) (by decide) (by decide) rfl rfl rfl) ?_
    rintro _ _ ⟨g55, rfl, rfl⟩
    refine TL.eff rfl rfl rfl (X.appendS rfl el56 rfl pul rfl (by first | exact Src.owns Try.underlying56 inn | exact Src.rds Try.underlying56 inn | exact Src.reads (by assumption) Try.underlying56 inn) (by simp only [maxLen]; omega) (by omega)) ?_
    rintro _ _ ⟨a56, c56, rfl, rfl⟩
    rw [p.cs_s ra sa rcap sc k hk2]
    refine TL.val rfl rfl rfl (Y.assign rfl rfl) ?_
    refine TL.nil ?_
    refine TQ.next ?_
    refine TC.region ?_
    refine TL.val rfl rfl rfl (Y.move rfl rfl) ?_
    refine TL.val rfl rfl rfl (Y.move rfl rfl) ?_
    refine TL.val rfl rfl rfl (Y.bin rfl rfl rfl (br_addN (by omega))) ?_
    refine TL.as (vN (p.wire (k + 1)).length) (by (rw [hws])) ?_
    refine TL.val rfl rfl rfl (Y.assign rfl rfl) ?_
    refine TL.nil ?_
    refine TQ.block_normal ?_
    refine TQ.loopF ((k + 1, (a56, c56), sa, sc)) (by show k + 1 ≤ 2; omega) (by show 2 - (k + 1) < 2 - k; omega) ⟨rfl, rfl, trivial⟩ grw ?_ ?_ ?_
    · kernel_rfl
    · rfl
    · simp only [List.cons_append, List.nil_append]
      exact ett
  · try simp only [decide_eq_true_eq, decide_eq_false_iff_not, Bool.not_eq_true', Bool.not_eq_false', Bool.and_eq_true, Bool.or_eq_true, Nat.not_lt, Nat.not_le, beq_iff_eq, bne_iff_ne] at c0
    obtain rfl : k = 2 := by omega
    rw [show p.arr ra rcap 2 = p.R ra rcap from rfl, show p.cs ra rcap 2 = p.cells ra rcap from rfl]
    refine TC.know (owns_some (n := 2) (a := pa) inn (by decide)) ?_
    rintro ⟨g', off', rfl⟩
    refine TC.exit ?_
    refine TQ.then_exit ?_
    refine TQ.then_exit ?_
    refine TQ.block_exit ?_
    refine TQ.next ?_
    refine TC.seq ?_
    refine TC.region ?_
    refine TL.val rfl rfl rfl (Y.move rfl rfl) ?_
    refine TL.eff rfl rfl rfl (X.cl rfl Try.func15 rfl (h := (Build_fn ok ra rcap (SA.owns 46 16 (.slice (some ⟨g', off', none⟩) 2 pc) 2 (p.cells ra rcap)) g' off' pc Reads.owns _))) ?_
    rintro _ _ ⟨ba, bc, rfl, rfl⟩
    refine TL.val rfl rfl rfl (Y.move rfl rfl) ?_
    refine TL.val rfl rfl rfl (Y.extract rfl rfl rfl) ?_
    refine TL.val rfl rfl rfl (Y.extract rfl rfl rfl) ?_
    refine TL.val rfl rfl rfl (Y.assign rfl rfl) ?_
    refine TL.val rfl rfl rfl (Y.assign rfl rfl) ?_
    refine TL.nil ?_
    refine TQ.next ?_
    refine TC.seq ?_
    refine TC.seq ?_
    refine TC.region ?_
    refine TL.val rfl rfl rfl (Y.move rfl rfl) ?_
    refine TL.val rfl rfl rfl (Y.bin rfl rfl rfl (br_neN (n := 0))) ?_
    refine TL.is false isf ?_
    refine TL.val rfl rfl rfl (Y.move rfl rfl) ?_
    refine TL.valG rfl rfl rfl (Y.move rfl rfl) ?_
    refine TL.valG rfl rfl rfl (by first | exact Y.str rfl Try.underlying52 Try.underlying9 Try.underlying5 rfl Reads.rds inn | exact Y.str rfl Try.underlying52 Try.underlying9 Try.underlying5 rfl Reads.owns inn | exact Y.str rfl Try.underlying52 Try.underlying9 Try.underlying5 rfl (by assumption) inn) ?_
    refine TL.valG rfl rfl rfl (Y.move rfl rfl) ?_
    refine TL.valG rfl rfl rfl (by first | exact Y.str rfl Try.underlying52 Try.underlying9 Try.underlying5 rfl Reads.rds inn | exact Y.str rfl Try.underlying52 Try.underlying9 Try.underlying5 rfl Reads.owns inn | exact Y.str rfl Try.underlying52 Try.underlying9 Try.underlying5 rfl (by assumption) inn) ?_
    refine TL.valG rfl rfl rfl (Y.neB rfl rfl rfl) ?_
    refine TL.is false isf ?_
    refine TL.val rfl rfl rfl (Y.pick_f rfl rfl rfl) ?_
    refine TL.nil ?_
    refine TQ.next ?_
    refine TC.cond_f rfl ?_
    refine TC.skip ?_
    refine TQ.next ?_
    refine TC.seq ?_
    refine TC.region ?_
    refine TL.val rfl rfl rfl (Y.move rfl rfl) ?_
    refine TL.val rfl rfl rfl (Y.assign rfl rfl) ?_
    refine TL.val rfl rfl rfl (Y.assign rfl rfl) ?_
    refine TL.nil ?_
    refine TQ.next ?_
    refine TC.ret ?_
    refine TQ.retE (res2 rfl rfl rfl) (⟨g', off', pc, ra, rcap, rfl, rfl⟩) ?_
    exact ett
end tw
end Go.Proofs.Ythamkpjiecigjaa

/- twcc: what a recorder tells is right, and is read as it was written; the statement's walk. -/
namespace Go.Proofs.Ythamkpjiecigjaa
set_option linter.unusedVariables false
set_option linter.unusedSimpArgs false
open Go.RowKit
namespace tw
namespace FxTr9
set_option maxRecDepth 100000
theorem ag40 : Program.aggN Try.prog 40 = some 16 := by kernel_rfl
theorem ag46 : Program.aggN Try.prog 46 = some 16 := by kernel_rfl
theorem fo31_0 : Program.fieldOff Try.prog 31 0 = some 0 := by kernel_rfl
theorem fo31_1 : Program.fieldOff Try.prog 31 1 = some 1 := by kernel_rfl
theorem pl46 : Program.places Try.prog 46 = some [(0, 1), (1, 1), (2, 1), (3, 1), (4, 1), (5, 1), (6, 1), (7, 1), (8, 1), (9, 1), (10, 1), (11, 1), (12, 1), (13, 1), (14, 1), (15, 1)] := by kernel_rfl
theorem sc2 : Program.isSc Try.prog 2 = true := by kernel_rfl
theorem sc29 : Program.isSc Try.prog 29 = true := by kernel_rfl
theorem sl22 : Program.slI Try.prog 22 = some 3 := by kernel_rfl
theorem sz40 : (Try.prog.info? 40).map (·.size) = some 16 := by kernel_rfl
theorem zc40 : Program.zeroC Try.prog 40 = some #[.int .i64 0, .int .u32 0, .int .u32 0, .int .u64 0, .int .u32 0, .int .u32 0, .int .u32 0, .slice none 0 0, .string .empty, .slice none 0 0, .slice none 0 0, .int .u16 0, .int .u32 0, .int .u8 0, .slice none 0 0, .slice none 0 0] := by kernel_rfl
theorem zc46 : Program.zeroC Try.prog 46 = some #[.int .i64 0, .int .u32 0, .int .u32 0, .int .u64 0, .int .u32 0, .int .u32 0, .int .u32 0, .slice none 0 0, .string .empty, .slice none 0 0, .slice none 0 0, .int .u16 0, .int .u32 0, .int .u8 0, .slice none 0 0, .slice none 0 0] := by kernel_rfl
end FxTr9
open FxTr9
theorem nt_ne (l : List AR) (q : UInt16) (now : Int) : nt l q now ≠ [] := by
  unfold nt
  split
  · rename_i h
    rintro rfl
    exact absurd h (by rw [show wh [] q = (0, false) from rfl]; decide)
  · unfold rga.rput
    split
    · simp
    · rename_i h
      intro h2
      have h3 : ((l ++ [(q, nw now)]).drop 1).length = 0 := by rw [h2]; rfl
      rw [List.length_drop, List.length_append] at h3
      simp only [List.length_cons, List.length_nil] at h3
      omega
theorem cl_fit (x y : Nat) : -32768 ≤ cl x y ∧ cl x y ≤ 32767 := by unfold cl; omega
theorem fit_stp (l : List AR) (b : UInt16) (st : List Int × Nat) (d : Nat) (h : Fit st.1) : Fit (stp l b st d).1 := by
  unfold stp
  split
  · intro x hx
    rcases List.mem_append.1 hx with h1 | h1
    · exact h x h1
    · rw [List.mem_singleton.1 h1]; exact Or.inr (cl_fit _ _)
  · intro x hx
    rcases List.mem_append.1 hx with h1 | h1
    · exact h x h1
    · rw [List.mem_singleton.1 h1]; exact Or.inl rfl
theorem fit_arrs (l : List AR) (b : UInt16) (ah : Nat) : ∀ n, Fit (arrs l b ah n).1
  | 0 => fun x hx => by cases hx
  | n + 1 => by rw [arrs_s]; exact fit_stp _ _ _ _ (fit_arrs l b ah n)
abbrev pOf (bq : UInt16) (ba : Nat) (l : List AR) : P6 := ⟨1, 2, bq, rf ba, 0, al l⟩
theorem pOf_ok {bq : UInt16} {ba : Nat} {l : List AR} (hh : l.head? = some (bq, ba)) : (pOf bq ba l).ok := by
  have hal : al l = (arrs l bq (ah0 ba) (farN l bq + 1)).1 := by rw [al, hh]
  refine ⟨?_, ?_, al_len l, ?_⟩
  · show (rf ba).toNat < _
    unfold rf
    rw [UInt32.toNat_and]
    exact Nat.lt_of_le_of_lt Nat.and_le_right (by decide)
  · show 1 ≤ (al l).length
    rw [hal, arrs_len]; omega
  · show Fit (al l)
    rw [hal]; exact fit_arrs _ _ _ _
def oz {α β : Type} (o : Option α) (z : β) (f : α → β) : β := match o with
  | none => z
  | some x => f x
theorem pkOf_oz (l : List AR) (arr : Value) : pkOf 1 2 0 l arr = PK (oz l.head? 0 fun _ => 6) (oz l.head? 0 fun _ => 1) (oz l.head? 0 fun _ => 2) (oz l.head? 0 fun x => x.1) (oz l.head? 0 fun x => rf x.2) 0 arr := by
  unfold pkOf
  cases l.head? <;> rfl
set_option maxHeartbeats 2000000 in
theorem right_fn (a : Option Addr) (cap : Nat) (ls : List Cm) (L : List SA) :
    Fn Try.prog 4 [.slice a ls.length cap] (SA.dat (⟨a, cap, ls⟩ : Sl Cm) :: L) (fun v L' => v = .bool true ∧ L' = SA.dat (⟨a, cap, ls⟩ : Sl Cm) :: L) := by
  refine Fn.of (N := 85) Try.func4 rfl rfl ?_
  intro Xh
  refine TC.seq ?_
  refine TC.region ?_
  refine TL.val rfl rfl rfl (Y.assign rfl rfl) ?_
  refine TL.nil ?_
  refine TQ.next ?_
  refine TC.seq ?_
  refine TC.seq ?_
  refine TC.region ?_
  refine TL.eff rfl rfl rfl (X.cl rfl Try.func6 rfl (h := (tw.awake_fn _))) ?_
  rintro _ _ ⟨rfl, rfl⟩
  refine TL.val rfl rfl rfl (Y.not rfl rfl) ?_
  refine TL.nil ?_
  refine TQ.next ?_
  refine TC.cond_f rfl ?_
  refine TC.skip ?_
  refine TQ.next ?_
  refine TC.seq ?_
  refine TC.region ?_
  refine TL.eff rfl rfl rfl (X.cl rfl Try.func7 rfl (h := (tw.New_fn _))) ?_
  rintro _ _ ⟨r15, rg15, rfl, rfl⟩
  refine TL.val rfl rfl rfl (Y.assign rfl rfl) ?_
  refine TL.nil ?_
  refine TQ.next ?_
  refine TC.seq ?_
  refine TC.seq ?_
  refine TC.region ?_
  refine TL.val rfl rfl rfl (Y.move rfl rfl) ?_
  refine TL.val rfl rfl rfl (Y.len rfl Try.underlying22 rfl) ?_
  refine TL.val rfl rfl rfl (Y.move rfl rfl) ?_
  refine TL.nil ?_
  refine TQ.next ?_
  refine TC.block ?_
  refine TC.know (dat_cap (a := a) inn) ?_
  rintro ⟨hc1, hc2, -⟩
  try simp only [maxLen] at hc2
  refine TC.loopF (ι := Nat × List AR) [] (fun i => i.1 ≤ ls.length ∧ i.2.length ≤ 64 ∧ Ok i.2 ∧ (i.1 = 0 ∧ i.2 = [] ∨ 0 < i.1 ∧ i.2 ≠ [])) (fun i => [(18, some (vN i.1))]) (fun i => [SA.blk r15 #[pt rg15 0, v8 0] 69, rga.RG rg15 64 i.2]) (fun i => ls.length - i.1) ((0, [])) (⟨Nat.zero_le _, Nat.zero_le _, fun _ h => (by cases h), Or.inl ⟨rfl, rfl⟩⟩) ⟨rfl, trivial⟩ (Pulls.cons pul (Pulls.cons pul Pulls.nil)) ?_
  rintro ⟨k, l⟩ ⟨hk, hl, hok, hz⟩ F' L' rfl hL'
  simp only [List.cons_append, List.nil_append] at hL'
  subst hL'
  simp only at hk hl hok hz ⊢
  refine TC.seq ?_
  refine TC.region ?_
  refine TL.val rfl rfl rfl (Y.bin rfl rfl rfl (br_ltN)) ?_
  refine TL.nil ?_
  refine TQ.next ?_
  refine TC.seq ?_
  refine TC.cond rfl (fun c1 => ?_) (fun c1 => ?_)
  · try simp only [decide_eq_true_eq, decide_eq_false_iff_not, Bool.not_eq_true', Bool.not_eq_false', Bool.and_eq_true, Bool.or_eq_true, Nat.not_lt, Nat.not_le, beq_iff_eq, bne_iff_ne] at c1
    refine TC.skip ?_
    refine TQ.next ?_
    refine TC.seq ?_
    refine TC.block ?_
    refine TC.seq ?_
    refine TC.region ?_
    refine TL.val rfl rfl rfl (Y.move rfl rfl) ?_
    refine TL.val rfl rfl rfl (Y.assign rfl rfl) ?_
    refine TL.nil ?_
    refine TQ.next ?_
    refine TC.know (dat_some (a := a) inn (by omega)) ?_
    rintro ⟨ga, off, rfl⟩
    obtain ⟨x, hx, -⟩ := getS (l := ls) (i := k) (by omega)
    obtain ⟨xq, xn, xk⟩ := x
    refine TC.draws 11 [SA.dat (⟨some ⟨ga, off, none⟩, cap, ls⟩ : Sl Cm)] (by kernel_rfl) (by kernel_rfl) hld ?_
    refine TA.tk 0 rfl rfl (Y.move rfl rfl) ?_
    refine TA.tp 1 rfl rfl (Y.move rfl rfl) ?_
    refine TA.tp 2 rfl rfl (Y.move rfl rfl) ?_
    refine TA.tp 3 rfl rfl (by first | exact Y.indexSlB rfl sl22 rfl rfl (by omega) nqq | exact Y.indexSl rfl sl22 rfl rfl (by omega) nqq) ?_
    refine TA.tp 4 rfl rfl (by first | exact Y.fieldAddrJ rfl fo31_0 rfl nqq | exact Y.fieldAddr rfl fo31_0 rfl nqq) ?_
    refine TA.tk 5 rfl rfl (Y.load rfl sc29 rfl cel16) ?_
    refine TA.as (v16 xq) (by rfl) ?_
    refine TA.tp 6 rfl rfl (Y.move rfl rfl) ?_
    refine TA.tp 7 rfl rfl (Y.move rfl rfl) ?_
    refine TA.tp 8 rfl rfl (by first | exact Y.indexSlB rfl sl22 rfl rfl (by omega) nqq | exact Y.indexSl rfl sl22 rfl rfl (by omega) nqq) ?_
    refine TA.tp 9 rfl rfl (by first | exact Y.fieldAddrJ rfl fo31_1 rfl nqq | exact Y.fieldAddr rfl fo31_1 rfl nqq) ?_
    refine TA.tk 10 rfl rfl (Y.load rfl sc2 rfl celN) ?_
    refine TA.as (vI xn) (by rfl) ?_
    refine TA.one 11 (by kernel_rfl) rfl rfl rfl rfl (X.cl rfl Try.func9 rfl (h := (tw.Note_fn _ _ _ l xq xn (by omega) _))) ?_
    rintro _ _ rfl
    refine ⟨(Or.inl (by kernel_rfl)), ?_⟩
    refine TA.done (by kernel_rfl) ?_
    refine TQ.block_normal ?_
    refine TQ.next ?_
    refine TC.region ?_
    refine TL.val rfl rfl rfl (Y.bin rfl rfl rfl (br_addN (n := 1) (by omega))) ?_
    refine TL.val rfl rfl rfl (Y.move rfl rfl) ?_
    refine TL.nil ?_
    refine TQ.loopF ((k + 1, nt l xq xn)) (⟨by simp only; omega, nt_len hl _ _, nt_ok hok _ _, Or.inr ⟨Nat.succ_pos _, nt_ne _ _ _⟩⟩) (by simp only; omega) ⟨rfl, trivial⟩ grw ?_ ?_ ?_
    · kernel_rfl
    · rfl
    · simp only [List.cons_append, List.nil_append]
      exact ett
  · try simp only [decide_eq_true_eq, decide_eq_false_iff_not, Bool.not_eq_true', Bool.not_eq_false', Bool.and_eq_true, Bool.or_eq_true, Nat.not_lt, Nat.not_le, beq_iff_eq, bne_iff_ne] at c1
    obtain rfl : k = ls.length := by omega
    refine TC.exit ?_
    refine TQ.then_exit ?_
    refine TQ.then_exit ?_
    refine TQ.block_exit ?_
    refine TQ.next ?_
    refine TC.seq ?_
    refine TC.region ?_
    refine TL.val rfl rfl rfl (Y.move rfl rfl) ?_
    refine TL.eff rfl rfl rfl (X.cl rfl Try.func11 rfl (h := (tw.Feedback_fn _ _ _ l 1 2 hl hok _))) ?_
    rintro _ _ ⟨a36, c36, g36, rfl, rfl⟩
    rw [pkOf_oz]
    refine TL.val rfl rfl rfl (Y.move rfl rfl) ?_
    refine TL.val rfl rfl rfl (Y.extract rfl rfl rfl) ?_
    refine TL.val rfl rfl rfl (Y.extract rfl rfl rfl) ?_
    refine TL.eff rfl rfl rfl (X.alloc rfl zc40) ?_
    rintro _ _ ⟨b5, rfl, rfl⟩
    refine TL.eff0 rfl rfl (by first | exact X.storeAll rfl sz40 (by rfl) rfl rfl (allOne (by rfl)) pul (by rfl) | exact X.storeAll rfl sz40 szz rfl rfl (by simp [Value.oneCell']) pul szz | exact X.storeAgg rfl sz40 szz rfl rfl (by simp [Value.oneCell']) pul szz (writeM (by ((try simp only [List.length_set, List.length_map, List.length_append, List.length_replicate]); omega)))) ?_
    rintro _ _ rfl
    refine TL.val rfl rfl rfl (Y.assign rfl rfl) ?_
    refine TL.nil ?_
    refine TQ.next ?_
    refine TC.seq ?_
    refine TC.seq ?_
    refine TC.region ?_
    refine TL.val rfl rfl rfl (Y.move rfl rfl) ?_
    refine TL.val rfl rfl rfl (Y.not rfl rfl) ?_
    refine TL.nil ?_
    refine TQ.next ?_
    refine TC.cond rfl (fun c2 => ?_) (fun c2 => ?_)
    · try simp only [decide_eq_true_eq, decide_eq_false_iff_not, Bool.not_eq_true', Bool.not_eq_false', Bool.and_eq_true, Bool.or_eq_true, Nat.not_lt, Nat.not_le, beq_iff_eq, bne_iff_ne] at c2
      have he : l = [] := by cases l with
        | nil => rfl
        | cons => simp at c2
      have h0 : ls.length = 0 := hz.elim (fun h => h.1) fun h => absurd he h.2
      refine TC.seq ?_
      refine TC.region ?_
      refine TL.val rfl rfl rfl (Y.move rfl rfl) ?_
      refine TL.val rfl rfl rfl (Y.len rfl Try.underlying22 rfl) ?_
      refine TL.val rfl rfl rfl (Y.bin rfl rfl rfl (br_eqN (n := 0))) ?_
      refine TL.is true (by (simp [h0])) ?_
      refine TL.val rfl rfl rfl (Y.assign rfl rfl) ?_
      refine TL.nil ?_
      refine TQ.next ?_
      refine TC.ret ?_
      refine TQ.then_ret ?_
      refine TQ.retE (res1 rfl rfl) (⟨rfl, rfl⟩) ?_
      exact ett
    · try simp only [decide_eq_true_eq, decide_eq_false_iff_not, Bool.not_eq_true', Bool.not_eq_false', Bool.and_eq_true, Bool.or_eq_true, Nat.not_lt, Nat.not_le, beq_iff_eq, bne_iff_ne] at c2
      obtain ⟨bq, ba, hhd⟩ : ∃ bq ba, l.head? = some (bq, ba) := by
        cases l with
        | nil => simp at c2
        | cons x t => exact ⟨x.1, x.2, rfl⟩
      have hoz : ∀ arr, PK (oz l.head? 0 fun _ => 6) (oz l.head? 0 fun _ => 1) (oz l.head? 0 fun _ => 2) (oz l.head? 0 fun x => x.1) (oz l.head? 0 fun x => rf x.2) 0 arr = PK 6 1 2 bq (rf ba) 0 arr := fun arr => by rw [hhd]; rfl
      rw [hoz]
      have ok := pOf_ok hhd
      have hw2 := (pOf bq ba l).w2 ok
      refine TC.to ((Pull.ent (A := SA.owns 3 1 (.slice a36 (al l).length c36) (al l).length ((al l).map vI)) pul).trans (show Ent _ ((pOf bq ba l).R a36 c36 :: _) from Ent.freeze)) ?_
      refine TC.skip ?_
      refine TQ.next ?_
      refine TC.seq ?_
      refine TC.region ?_
      refine TL.val rfl rfl rfl (Y.buildS (cells := PK 2 0 0 0 0 0 (.slice none 0 0)) rfl rfl pl46 zc46 (by kernel_rfl)) ?_
      refine TL.val rfl rfl rfl (Y.loadAgg rfl ag40 rfl (Cels.all (cs := PK 6 1 2 bq (rf ba) 0 (.slice a36 (al l).length c36)) inn) (by first | rfl | ((try simp only [List.length_map, List.length_set, List.length_replicate]); omega))) ?_
      refine TL.as (.agg (PK 6 1 2 bq (rf ba) 0 (.slice a36 (al l).length c36))) (by rfl) ?_
      refine TL.eff rfl rfl rfl (X.cl rfl Try.func14 rfl (h := (tw.ours_fn _ _ _ _ _ _ _ _ _ _))) ?_
      rintro _ _ ⟨rfl, rfl⟩
      refine TL.eff rfl rfl rfl (X.litA (sz := 16) (bytes := 0) (z := .nilFunc) (vs := [.agg (PK 2 0 0 0 0 0 (.slice none 0 0)), .agg (PK 6 1 2 bq (rf ba) 0 (.slice a36 (al l).length c36))]) (cells := (pOf bq ba l).cells a36 c36) rfl Try.underlying56 (by kernel_rfl) rfl rfl rfl (by decide) (by decide) (by decide) rfl rfl rfl) ?_
      rintro _ _ ⟨g48, rfl, rfl⟩
      refine TL.eff rfl rfl rfl (X.cl rfl Try.func15 rfl (h := (Build_fn ok a36 c36 (SA.owns 46 16 (.slice (some ⟨g48, 0, none⟩) 2 2) 2 ((pOf bq ba l).cells a36 c36)) g48 0 2 Reads.owns _))) ?_
      rintro _ _ ⟨a49, c49, rfl, rfl⟩
      refine TL.val rfl rfl rfl (Y.move rfl rfl) ?_
      refine TL.val rfl rfl rfl (Y.extract rfl rfl rfl) ?_
      refine TL.val rfl rfl rfl (Y.extract rfl rfl rfl) ?_
      refine TL.val rfl rfl rfl (Y.assign rfl rfl) ?_
      refine TL.val rfl rfl rfl (Y.assign rfl rfl) ?_
      refine TL.nil ?_
      refine TQ.next ?_
      refine TC.seq ?_
      refine TC.know (owns_some (n := ((pOf bq ba l).wire 2).length) (a := a49) inn (by omega)) ?_
      rintro ⟨gw, ow, rfl⟩
      refine TC.region ?_
      refine TL.val rfl rfl rfl (Y.move rfl rfl) ?_
      refine TL.eff rfl rfl rfl (X.cl rfl Try.func16 rfl (h := (Parse_fn ok (SA.owns 5 1 (.slice (some ⟨gw, ow, none⟩) ((pOf bq ba l).wire 2).length c49) ((pOf bq ba l).wire 2).length (((pOf bq ba l).wire 2).map v8)) gw ow _ c49 Reads.owns rfl _))) ?_
      rintro _ _ ⟨g', off', pc, ra, rcap, rfl, rfl⟩
      refine TL.val rfl rfl rfl (Y.move rfl rfl) ?_
      refine TL.val rfl rfl rfl (Y.extract rfl rfl rfl) ?_
      refine TL.val rfl rfl rfl (Y.extract rfl rfl rfl) ?_
      refine TL.val rfl rfl rfl (Y.assign rfl rfl) ?_
      refine TL.val rfl rfl rfl (Y.assign rfl rfl) ?_
      refine TL.nil ?_
      refine TQ.next ?_
      refine TC.seq ?_
      refine TC.region ?_
      refine TL.val rfl rfl rfl (Y.move rfl rfl) ?_
      refine TL.eff rfl rfl rfl (X.cl rfl Try.func11 rfl (h := (tw.Feedback_fn _ _ _ ([] : List AR) 1 2 (by decide) (fun _ h => by cases h) _))) ?_
      rintro _ _ ⟨a59, c59, g59, rfl, rfl⟩
      rw [show ∀ arr, pkOf 1 2 (cn 0 l) ([] : List AR) arr = PK 0 0 0 0 0 0 arr from fun _ => rfl]
      refine TL.val rfl rfl rfl (Y.move rfl rfl) ?_
      refine TL.val rfl rfl rfl (Y.extract rfl rfl rfl) ?_
      refine TL.val rfl rfl rfl (Y.extract rfl rfl rfl) ?_
      refine TL.eff rfl rfl rfl (X.alloc rfl zc40) ?_
      rintro _ _ ⟨b11, rfl, rfl⟩
      refine TL.eff0 rfl rfl (by first | exact X.storeAll rfl sz40 (by rfl) rfl rfl (allOne (by rfl)) pul (by rfl) | exact X.storeAll rfl sz40 szz rfl rfl (by simp [Value.oneCell']) pul szz | exact X.storeAgg rfl sz40 szz rfl rfl (by simp [Value.oneCell']) pul szz (writeM (by ((try simp only [List.length_set, List.length_map, List.length_append, List.length_replicate]); omega)))) ?_
      rintro _ _ rfl
      refine TL.val rfl rfl rfl (Y.assign rfl rfl) ?_
      refine TL.nil ?_
      refine TQ.next ?_
      refine TC.seq ?_
      refine TC.draws 24 [SA.owns 46 16 (.slice (some ⟨g', off', none⟩) 2 pc) 2 ((pOf bq ba l).cells ra rcap), SA.blk b5 (PK 6 1 2 bq (rf ba) 0 (.slice a36 (al l).length c36)) 40] (by kernel_rfl) (by kernel_rfl) hld ?_
      refine TA.tk 0 rfl rfl (Y.move rfl rfl) ?_
      refine TA.tk 1 rfl rfl (Y.bin rfl rfl rfl (br_eqN (n := 0))) ?_
      refine TA.is true isf ?_
      refine TA.tk 2 rfl rfl (Y.move rfl rfl) ?_
      refine TA.tk 3 rfl rfl (Y.move rfl rfl) ?_
      refine TA.tk 4 rfl rfl (Y.bin rfl rfl rfl (br_eqN (n := 0))) ?_
      refine TA.is true isf ?_
      refine TA.tk 5 rfl rfl (Y.pick_t rfl rfl rfl) ?_
      refine TA.tk 6 rfl rfl (Y.move rfl rfl) ?_
      refine TA.tk 7 rfl rfl (Y.move rfl rfl) ?_
      refine TA.tk 8 rfl rfl (Y.len rfl Try.underlying56 rfl) ?_
      refine TA.tk 9 rfl rfl (Y.bin rfl rfl rfl (br_eqN (n := 2))) ?_
      refine TA.is true isf ?_
      refine TA.tk 10 rfl rfl (Y.pick_t rfl rfl rfl) ?_
      refine TA.tk 11 rfl rfl (Y.move rfl rfl) ?_
      refine TA.tk 12 rfl rfl (Y.move rfl rfl) ?_
      refine TA.tk 13 rfl rfl (Y.indexSlB (j := 1) (sz := 16) (q := off' + 16) rfl (by kernel_rfl) rfl rfl (by decide) rfl) ?_
      refine TA.tk 14 rfl rfl (Y.loadAgg rfl ag46 rfl (Cels.m16 (k := 1) (l := ((pOf bq ba l).f ra rcap 1).A.toList) Reads.owns inn ((pOf bq ba l).at ra rcap 1 (by decide))) (by first | rfl | ((try simp only [List.length_map, List.length_set, List.length_replicate]); omega))) ?_
      refine TA.as (.agg (PK 6 1 2 bq (rf ba) 0 (.slice ra (al l).length rcap))) (by rfl) ?_
      refine TA.tk 15 rfl rfl (Y.loadAgg rfl ag40 rfl (Cels.all (cs := PK 6 1 2 bq (rf ba) 0 (.slice a36 (al l).length c36)) inn) (by first | rfl | ((try simp only [List.length_map, List.length_set, List.length_replicate]); omega))) ?_
      refine TA.as (.agg (PK 6 1 2 bq (rf ba) 0 (.slice a36 (al l).length c36))) (by rfl) ?_
      refine TA.one 16 (by kernel_rfl) rfl rfl rfl rfl (X.cl rfl Try.func14 rfl (h := (ours_fn 6 1 2 bq (rf ba) 0 a36 (al l).length c36 _))) ?_
      rintro _ _ ⟨rfl, rfl⟩
      refine ⟨(Or.inr hld), ?_⟩
      refine TA.one 17 (by kernel_rfl) rfl rfl rfl rfl (X.cl rfl Try.func13 rfl (h := (same_rd 6 1 2 bq (rf ba) 0 ra a36 rcap c36 (al l) ((pOf bq ba l).R ra rcap) ((pOf bq ba l).R a36 c36) Reads.rds Reads.rds _))) ?_
      rintro _ _ ⟨rfl, rfl⟩
      refine ⟨(Or.inr hld), ?_⟩
      refine TA.tk 18 rfl rfl (Y.pick_t rfl rfl rfl) ?_
      refine TA.tk 19 rfl rfl (Y.move rfl rfl) ?_
      refine TA.is true isf ?_
      refine TA.tk 20 rfl rfl (Y.move rfl rfl) ?_
      refine TA.tk 21 rfl rfl (Y.not rfl rfl) ?_
      refine TA.is true isf ?_
      refine TA.tk 22 rfl rfl (Y.pick_t rfl rfl rfl) ?_
      refine TA.tk 23 rfl rfl (Y.assign rfl rfl) ?_
      refine TA.done (by kernel_rfl) ?_
      refine TQ.next ?_
      refine TC.ret ?_
      refine TQ.retE (res1 rfl rfl) (⟨rfl, rfl⟩) ?_
      exact ett
end tw
end Go.Proofs.Ythamkpjiecigjaa

/- Arguments that are data meet the rows. No program is named. -/
namespace Go.Proofs.Ythamkpjiecigjaa
set_option linter.unusedVariables false
set_option linter.unusedSimpArgs false
open Go.ChangeShapes Go.WideShapes Go.ChangeAt Go.RowKit
section
variable {H : Type} {enc : TypeId × Value → H} {P : Program} {W : World} {base : Nat} {t e : TypeId} {v : Value} {d : DataW H} {p : List MemPlace} {ts : List TypeId} {ds : List (DataW H)}
theorem open_dat {α : Type} [Dat α] {Bd : α → Prop} (hT : DatT P t α Bd) (j : Nat) (k : DataW.Trod enc P W 0 (fun _ => true) true t v d p)
    (hsz : (DataW.weightsEach P ts ds).all (· ≤ reachBytes) = true) (ht : ts[j]? = some t) (hd : ds[j]? = some d) : ∃ x : α, v.cells.toList = Dat.c x ∧ RdAll W (Dat.g x) ∧ Bd x :=
  hT H enc W _ (Opn.top k hsz ht hd)
theorem open_struct {α : Type} [Dat α] {Bd : α → Prop} {fs : Array Field} (hT : DatT P t α Bd) (hu : P.underlying t = some (.struct fs)) (j : Nat) (o : Value.okWide P W .any base t v) (k : DataW.Trod enc P W 0 (fun _ => true) true t v d p)
    (hsz : (DataW.weightsEach P ts ds).all (· ≤ reachBytes) = true) (ht : ts[j]? = some t) (hd : ds[j]? = some d) : ∃ x : α, v = .agg (Dat.c x).toArray ∧ RdAll W (Dat.g x) ∧ Bd x := by
  unfold Value.okWide at o
  simp only [hu] at o
  obtain ⟨cs, rfl, _⟩ := o
  obtain ⟨x, h1, h2⟩ := open_dat hT j k hsz ht hd
  exact ⟨x, by simp only [Value.cells] at h1; rw [← h1], h2⟩
theorem open_slice {α : Type} [Dat α] {Bd : Sl α → Prop} (hT : DatT P t (Sl α) Bd) (hu : P.underlying t = some (.slice e)) (j : Nat) (o : Value.okWide P W .any base t v) (k : DataW.Trod enc P W 0 (fun _ => true) true t v d p)
    (hsz : (DataW.weightsEach P ts ds).all (· ≤ reachBytes) = true) (ht : ts[j]? = some t) (hd : ds[j]? = some d) : ∃ x : Sl α, v = x.v ∧ RdAll W (Dat.g x) ∧ Bd x := by
  obtain ⟨a, len, cap, rfl⟩ := okWide_slice hu o
  obtain ⟨x, h1, h2⟩ := open_dat hT j k hsz ht hd
  refine ⟨x, ?_, h2⟩
  have h1 : [Value.slice a len cap] = [x.v] := h1
  exact List.head_eq_of_cons_eq h1
theorem DatT.bytes (ht : P.underlying t = some (.slice e)) (he : P.underlying e = some (.int .u8)) (hc : P.cellsOf e = 1) (hB : P.bytesOf e = 1) : DatT P t Bs (fun s => s.l.length ≤ reachBytes) := fun H enc W cs ho => by
  obtain ⟨x, h1, h2, h3⟩ := DatT.slice (α := UInt8) ht hc hB (DatT.u8 he) H enc W cs ho
  exact ⟨x, h1, h2, by simpa using h3.1⟩
theorem SA.dat_arg {α : Type} [Dat α] {x : α} (h : RdAll W (Dat.g x)) : ∃ R, (SA.dat x).p W (fun _ => False) R ∧ ∀ k, R k → k < W.heap.size := h.st
theorem in_last {A : SA} : ∀ As : List SA, In A (As ++ [A])
  | [] => In.here
  | _ :: As => In.there (in_last As)
/-- the statement's walk meets the row: its arguments are such data, and stay -/
theorem Fn.topD {f : FuncId} {args : List Value} {As : List SA} (h : Fn P f args (As ++ [SA.old W]) (fun v L' => v = .bool true ∧ L' = As ++ [SA.old W])) (hA : ∀ A, In A As → ∃ R, A.p W (fun _ => False) R ∧ ∀ k, R k → k < W.heap.size) :
    Calls P f args.toArray W fun e w' => e = .returned (.bool true) ∧ Fr [] W w' :=
  Fn.top (As := As) (h.mono fun v L' ⟨e1, e2⟩ => ⟨L', Ent.refl, e1, e2 ▸ in_last As⟩) hA
end
end Go.Proofs.Ythamkpjiecigjaa

/- twcc: the walks meet the rows. -/
namespace Go.Proofs.Ythamkpjiecigjaa
set_option linter.unusedVariables false
set_option linter.unusedSimpArgs false
open Go.ChangeShapes Go.WideShapes Go.ChangeAt Go.RowKit
namespace tw
theorem datCm : DatT Try.prog 31 Cm (fun x => True ∧ inI x.2.1 ∧ True) :=
  DatF.all (DatF.cons (n := 1) Try.underlying31 (i := 0) rfl (by kernel_rfl) (DatT.u16 Try.underlying29) (DatF.cons (n := 1) Try.underlying31 (i := 1) rfl (by kernel_rfl) (DatT.int Try.underlying2)
    (DatF.last (n := 1) Try.underlying31 (i := 2) rfl (by kernel_rfl) (DatT.bool Try.underlying4) (by kernel_rfl))))
section
variable {H : Type} {enc : TypeId × Value → H} {W : World} {base : Nat}
theorem nil_open {k c : Int} (hk : (Lit.int .u16 k).wf = true) : Calls Try.prog 5 #[.int .u16 k, .int .i64 c] W fun e w' => e = .returned (.bool true) ∧ Fr [] W w' := by
  rw [wf_u16 hk]
  exact Fn.topD (As := []) (nil_fn _ c [SA.old W]) (fun A hA => by cases hA)
set_option maxRecDepth 100000 in
theorem feeds_open {v : Value} {d0 d1 d2 : DataW H} {p : List MemPlace} {k1 k2 : Int} (h1 : (Lit.int .u32 k1).wf = true) (h2 : (Lit.int .u32 k2).wf = true)
    (o : Value.okWide Try.prog W .any base 22 v) (k : DataW.Trod enc Try.prog W 0 (fun _ => true) true 22 v d0 p)
    (hsz : (DataW.weightsEach Try.prog ([22, 23, 23] ++ []) ([d0, d1, d2] ++ [])).all (· ≤ reachBytes) = true) :
    Calls Try.prog 3 #[v, .int .u32 k1, .int .u32 k2] W fun e w' => e = .returned (.bool true) ∧ Fr [] W w' := by
  obtain ⟨⟨a, cap, ls⟩, rfl, g1, -⟩ := open_slice (DatT.slice (B := 24) Try.underlying22 (by kernel_rfl) (by kernel_rfl) datCm) Try.underlying22 0 o k hsz rfl rfl
  rw [wf_u32 h1, wf_u32 h2]
  exact Fn.topD (As := [SA.dat (⟨a, cap, ls⟩ : Sl Cm)]) (feeds_fn a cap ls _ _ [SA.old W]) (fun A hA => by rw [hA.one]; exact SA.dat_arg g1)
end
end tw
end Go.Proofs.Ythamkpjiecigjaa

/- twcc: TwccRight's walk meets its row. -/
namespace Go.Proofs.Ythamkpjiecigjaa
set_option linter.unusedVariables false
set_option linter.unusedSimpArgs false
open Go.ChangeShapes Go.WideShapes Go.ChangeAt Go.RowKit
namespace tw
section
variable {H : Type} {enc : TypeId × Value → H} {W : World} {base : Nat}
set_option maxRecDepth 100000 in
theorem right_open {v : Value} {d0 : DataW H} {p : List MemPlace}
    (o : Value.okWide Try.prog W .any base 22 v) (k : DataW.Trod enc Try.prog W 0 (fun _ => true) true 22 v d0 p)
    (hsz : (DataW.weightsEach Try.prog ([22] ++ []) ([d0] ++ [])).all (· ≤ reachBytes) = true) :
    Calls Try.prog 4 #[v] W fun e w' => e = .returned (.bool true) ∧ Fr [] W w' := by
  obtain ⟨⟨a, cap, ls⟩, rfl, g1, -⟩ := open_slice (DatT.slice (B := 24) Try.underlying22 (by kernel_rfl) (by kernel_rfl) datCm) Try.underlying22 0 o k hsz rfl rfl
  exact Fn.topD (As := [SA.dat (⟨a, cap, ls⟩ : Sl Cm)]) (right_fn a cap ls [SA.old W]) (fun A hA => by rw [hA.one]; exact SA.dat_arg g1)
end
end tw
end Go.Proofs.Ythamkpjiecigjaa
