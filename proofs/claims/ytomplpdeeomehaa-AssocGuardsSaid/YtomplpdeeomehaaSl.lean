/- A small logic of memory apart, over any program: atoms that own or read blocks, lists of them, how the world's steps change them. No program is named. -/
import Derived.Test.YtomplpdeeomehaaLib
namespace Go.Proofs.Ytomplpdeeomehaa
set_option linter.unusedVariables false
set_option linter.unusedSimpArgs false
open Go.RowKit

/-- w' HAS w's BLOCKS OF S AS THEY WERE. -/
structure Ag (S : Nat → Prop) (w w' : World) : Prop where
  os : w'.os = w.os
  tape : w'.tape = w.tape
  output : w'.output = w.output
  size : w.heap.size ≤ w'.heap.size
  block : ∀ k, k < w.heap.size → S k → w'.heap[k]? = w.heap[k]?
theorem Ag.refl (S : Nat → Prop) (w : World) : Ag S w w := ⟨rfl, rfl, rfl, Nat.le_refl _, fun _ _ _ => rfl⟩
theorem Ag.mono {S T : Nat → Prop} {w w' : World} (h : Ag S w w') (hT : ∀ k, k < w.heap.size → T k → S k) : Ag T w w' := ⟨h.os, h.tape, h.output, h.size, fun k h1 h2 => h.block k h1 (hT k h1 h2)⟩
theorem Ag.trans {S : Nat → Prop} {a b c : World} (h : Ag S a b) (k : Ag S b c) : Ag S a c :=
  ⟨k.os.trans h.os, k.tape.trans h.tape, k.output.trans h.output, Nat.le_trans h.size k.size, fun x hx hs => (k.block x (Nat.lt_of_lt_of_le hx h.size) hs).trans (h.block x hx hs)⟩
theorem Ag.fr {S : Nat → Prop} {T : List Nat} {w w' : World} (h : Fr T w w') (hS : ∀ k, S k → k ∉ T) : Ag S w w' := ⟨h.os, h.tape, h.output, h.size, fun k h1 h2 => h.block k h1 (hS k h2)⟩
theorem Ag.toFr {S : Nat → Prop} {T : List Nat} {w w' : World} (h : Ag S w w') (hS : ∀ k, k < w.heap.size → k ∉ T → S k) : Fr T w w' := ⟨h.os, h.tape, h.output, h.size, fun k h1 h2 => h.block k h1 (hS k h1 h2)⟩
theorem Ag.blk {S : Nat → Prop} {w w' : World} (h : Ag S w w') {b : Nat} {cs : Array Value} {t : TypeId} (hb : Blk w b cs t) (hs : S b) : Blk w' b cs t := (h.block b hb.lt hs).trans hb
theorem Ag.cell {S : Nat → Prop} {w w' : World} (h : Ag S w w') {p : Addr} (hp : p.block < w.heap.size) (hs : S p.block) : w'.cell? p = w.cell? p := World.cell?_of_block (w := w) (h.block _ hp hs)
theorem Ag.own1 {S : Nat → Prop} {w w' : World} (h : Ag S w w') {e : TypeId} {sz : Nat} {v : Value} {n : Nat} {cs : List Value} (ho : Own w e sz v n cs) (hs : ∀ k ∈ own v, S k) : Own w' e sz v n cs := by
  refine ⟨ho.len, ho.one, ?_⟩
  rcases ho.val with hn | ⟨g, off, cap, arr, rfl, hb, r⟩
  · exact .inl hn
  · exact .inr ⟨g, off, cap, arr, rfl, h.blk hb (hs g (by simp [Go.Proofs.Ytomplpdeeomehaa.own])), r⟩
theorem Ag.rd {S : Nat → Prop} {w w' : World} (h : Ag S w w') {sz : Nat} {v : Value} {n : Nat} {cs : List Value} (ho : Rd w sz v n cs) (hs : ∀ k ∈ own v, S k) : Rd w' sz v n cs := by
  obtain ⟨a, cap, rfl, h1, h2, h3, h4⟩ := ho.val
  refine ⟨ho.len, ho.one, a, cap, rfl, h1, h2, h3, fun b hb j u hu => ?_⟩
  have hc := h4 b hb j u hu
  rw [h.cell (World.block_lt_of_cell? w _ hc) (by rw [add_block]; exact hs _ (by simp [hb, Go.Proofs.Ytomplpdeeomehaa.own]))]
  exact hc

theorem Ag.rd0 {S : Nat → Prop} {w w' : World} (h : Ag S w w') {sz : Nat} {v : Value} {n : Nat} {cs : List Value} (ho : Rd w sz v n cs) (hs : n ≠ 0 → ∀ k ∈ own v, S k) : Rd w' sz v n cs := by
  by_cases hn : n = 0
  · obtain ⟨a, cap, rfl, h1, h2, h3, h4⟩ := ho.val
    refine ⟨ho.len, ho.one, a, cap, rfl, h1, h2, h3, fun b hb j u hu => ?_⟩
    have := ho.len
    subst hn
    rw [Nat.zero_mul] at this
    rw [List.eq_nil_of_length_eq_zero this] at hu
    simp at hu
  · exact h.rd ho (hs hn)

/-- AN ATOM: true of a world, with blocks of its own and blocks that it reads. -/
structure SA where
  p : World → (Nat → Prop) → (Nat → Prop) → Prop
  loc : ∀ {w w' : World} {O R : Nat → Prop}, p w O R → Ag (fun k => O k ∨ R k) w w' → p w' O R

namespace SA
def emp : SA := ⟨fun _ _ _ => True, fun _ _ => trivial⟩
def star (A B : SA) : SA where
  p w O R := ∃ O1 R1 O2 R2, A.p w O1 R1 ∧ B.p w O2 R2 ∧ (∀ k, O1 k → O k ∧ ¬ O2 k ∧ ¬ R2 k) ∧ (∀ k, O2 k → O k ∧ ¬ R1 k) ∧ (∀ k, R1 k → R k) ∧ (∀ k, R2 k → R k)
  loc := by
    rintro w w' O R ⟨O1, R1, O2, R2, hA, hB, h1, h2, h3, h4⟩ hg
    exact ⟨O1, R1, O2, R2, A.loc hA (hg.mono fun k _ h => h.elim (fun h => .inl (h1 k h).1) (fun h => .inr (h3 k h))), B.loc hB (hg.mono fun k _ h => h.elim (fun h => .inl (h2 k h).1) (fun h => .inr (h4 k h))), h1, h2, h3, h4⟩
def all : List SA → SA
  | [] => emp
  | A :: L => star A (all L)
/-- block b, owned -/
def blk (b : Nat) (cs : Array Value) (t : TypeId) : SA := ⟨fun w O _ => O b ∧ Blk w b cs t, fun h hg => ⟨h.1, hg.blk h.2 (.inl h.1)⟩⟩
/-- a slice of one's own -/
def owns (e : TypeId) (sz : Nat) (v : Value) (n : Nat) (cs : List Value) : SA := ⟨fun w O _ => (∀ k ∈ own v, O k) ∧ Own w e sz v n cs, fun h hg => ⟨h.1, hg.own1 h.2 (fun k hk => .inl (h.1 k hk))⟩⟩
/-- a slice that is read -/
def rds (sz : Nat) (v : Value) (n : Nat) (cs : List Value) : SA := ⟨fun w _ R => (n ≠ 0 → ∀ k ∈ own v, R k) ∧ Rd w sz v n cs, fun h hg => ⟨h.1, hg.rd0 h.2 (fun hn k hk => .inr (h.1 hn k hk))⟩⟩
/-- a block that is read -/
def rblk (b : Nat) (cs : Array Value) (t : TypeId) : SA := ⟨fun w _ R => R b ∧ Blk w b cs t, fun h hg => ⟨h.1, hg.blk h.2 (.inr h.1)⟩⟩
/-- all that was in w0 is as it was -/
def old (w0 : World) : SA := ⟨fun w _ R => (∀ k, k < w0.heap.size → R k) ∧ Fr [] w0 w, fun {w w' O R} h hg => ⟨h.1, ⟨hg.os.trans h.2.os, hg.tape.trans h.2.tape, hg.output.trans h.2.output, Nat.le_trans h.2.size hg.size, fun k hk hn =>
  (hg.block k (Nat.lt_of_lt_of_le hk h.2.size) (.inr (h.1 k hk))).trans (h.2.block k hk hn)⟩⟩⟩
/-- what holds as long as some blocks are as they were -/
def keep (φ : World → Prop) (S : Nat → Prop) (hφ : ∀ {w w' : World}, φ w → Ag S w w' → φ w') : SA := ⟨fun w _ R => (∀ k, S k → R k) ∧ φ w, fun h hg => ⟨h.1, hφ h.2 (hg.mono fun k _ hk => .inr (h.1 k hk))⟩⟩
def ex {α : Type} (f : α → SA) : SA := ⟨fun w O R => ∃ x, (f x).p w O R, fun ⟨x, h⟩ hg => ⟨x, (f x).loc h hg⟩⟩
def pure (q : Prop) : SA := ⟨fun _ _ _ => q, fun h _ => h⟩
end SA

/-- THE STATE: all of these atoms hold, apart from one another. -/
def St (L : List SA) (w : World) : Prop := ∃ O R, (SA.all L).p w O R ∧ ∀ k, O k ∨ R k → k < w.heap.size

section
variable {A A' B C D E : SA} {L L' : List SA} {w w' : World}

/-- The core: the head does a step of its own. -/
theorem St.upd (h : St (A :: L) w) (hk : ∀ O R, A.p w O R → (∀ k, O k ∨ R k → k < w.heap.size) →
      ∃ O' R', A'.p w' O' R' ∧ (∀ k, O' k → O k ∨ (w.heap.size ≤ k ∧ k < w'.heap.size)) ∧ (∀ k, R' k → O k ∨ R k ∨ (w.heap.size ≤ k ∧ k < w'.heap.size)) ∧ Ag (fun k => ¬ O k) w w') : St (A' :: L) w' := by
  obtain ⟨O, R, ⟨O1, R1, O2, R2, hA, hL, h1, h2, h3, h4⟩, hb⟩ := h
  obtain ⟨O', R', hA', g1, g2, hg⟩ := hk O1 R1 hA (fun k hk => hb k (hk.imp (fun h => (h1 k h).1) (h3 k)))
  refine ⟨fun k => O' k ∨ O2 k, fun k => R' k ∨ R2 k, ⟨O', R', O2, R2, hA', (SA.all L).loc hL (hg.mono fun k _ hk => ?_), fun k hk => ⟨.inl hk, ?_⟩, fun k hk => ⟨.inr hk, ?_⟩, fun k hk => .inl hk, fun k hk => .inr hk⟩, ?_⟩
  · intro hO
    rcases hk with hk | hk
    · exact (h1 k hO).2.1 hk
    · exact (h1 k hO).2.2 hk
  · rcases g1 k hk with h | h
    · exact (h1 k h).2
    · refine ⟨fun e => ?_, fun e => ?_⟩
      · have := hb k (.inl (h2 k e).1); omega
      · have := hb k (.inr (h4 k e)); omega
  · intro e
    rcases g2 k e with h | h | h
    · exact (h1 k h).2.1 hk
    · exact (h2 k hk).2 h
    · have := hb k (.inl (h2 k hk).1); omega
  · intro k hk
    have hs := hg.size
    rcases hk with (hk | hk) | (hk | hk)
    · rcases g1 k hk with h | h
      · have := hb k (.inl (h1 k h).1); omega
      · exact h.2
    · have := hb k (.inl (h2 k hk).1); omega
    · rcases g2 k hk with h | h | h
      · have := hb k (.inl (h1 k h).1); omega
      · have := hb k (.inr (h3 k h)); omega
      · exact h.2
    · have := hb k (.inr (h4 k hk)); omega
/-- the head, weakened -/
theorem St.imp (h : St (A :: L) w) (hk : ∀ O R, A.p w O R → ∃ O' R', A'.p w O' R' ∧ (∀ k, O' k → O k) ∧ (∀ k, R' k → O k ∨ R k)) : St (A' :: L) w :=
  h.upd fun O R hA _ => let ⟨O', R', h1, h2, h3⟩ := hk O R hA; ⟨O', R', h1, fun k hk => .inl (h2 k hk), fun k hk => (h3 k hk).imp id .inl, Ag.refl _ _⟩
theorem St.mono (h : St (A :: L) w) (hk : ∀ O R, A.p w O R → A'.p w O R) : St (A' :: L) w := h.imp fun O R hA => ⟨O, R, hk O R hA, fun _ h => h, fun _ h => .inr h⟩
/-- what the head says -/
theorem St.hd (h : St (A :: L) w) : ∃ O R, A.p w O R ∧ ∀ k, O k ∨ R k → k < w.heap.size := by
  obtain ⟨O, R, ⟨O1, R1, O2, R2, hA, hL, h1, h2, h3, h4⟩, hb⟩ := h
  exact ⟨O1, R1, hA, fun k hk => hb k (hk.imp (fun h => (h1 k h).1) (h3 k))⟩
theorem St.tl (h : St (A :: L) w) : St L w := by
  obtain ⟨O, R, ⟨O1, R1, O2, R2, hA, hL, h1, h2, h3, h4⟩, hb⟩ := h
  exact ⟨O2, R2, hL, fun k hk => hb k (hk.imp (fun h => (h2 k h).1) (h4 k))⟩
/-- one says the other -/
def SA.Le (A B : SA) : Prop := ∀ w O R, A.p w O R → B.p w O R
theorem SA.Le.refl (A : SA) : SA.Le A A := fun _ _ _ h => h
theorem SA.Le.trans (h : SA.Le A B) (k : SA.Le B C) : SA.Le A C := fun _ _ _ x => k _ _ _ (h _ _ _ x)
theorem SA.Le.star (h : SA.Le A A') (k : SA.Le B C) : SA.Le (SA.star A B) (SA.star A' C) := fun _ _ _ ⟨O1, R1, O2, R2, hA, hB, r⟩ => ⟨O1, R1, O2, R2, h _ _ _ hA, k _ _ _ hB, r⟩
theorem SA.Le.swap : SA.Le (SA.star A (SA.star B C)) (SA.star B (SA.star A C)) := by
  rintro w O R ⟨O1, R1, O2, R2, hA, ⟨O3, R3, O4, R4, hB, hL, g1, g2, g3, g4⟩, h1, h2, h3, h4⟩
  refine ⟨O3, R3, fun k => O1 k ∨ O4 k, fun k => R1 k ∨ R4 k, hB, ⟨O1, R1, O4, R4, hA, hL, ?_, ?_, fun k hk => .inl hk, fun k hk => .inr hk⟩, ?_, ?_, ?_, ?_⟩
  · intro k hk
    exact ⟨.inl hk, fun e => (h1 k hk).2.1 (g2 k e).1, fun e => (h1 k hk).2.2 (g4 k e)⟩
  · intro k hk
    exact ⟨.inr hk, fun e => (h2 k (g2 k hk).1).2 e⟩
  · intro k hk
    refine ⟨(h2 k (g1 k hk).1).1, ?_, ?_⟩
    · rintro (e | e)
      · exact (h1 k e).2.1 (g1 k hk).1
      · exact (g1 k hk).2.1 e
    · rintro (e | e)
      · exact (h2 k (g1 k hk).1).2 e
      · exact (g1 k hk).2.2 e
  · rintro k (hk | hk)
    · exact ⟨(h1 k hk).1, fun e => (h1 k hk).2.2 (g3 k e)⟩
    · exact ⟨(h2 k (g2 k hk).1).1, (g2 k hk).2⟩
  · intro k hk; exact h4 k (g3 k hk)
  · rintro k (hk | hk)
    · exact h3 k hk
    · exact h4 k (g4 k hk)
theorem SA.Le.assoc : SA.Le (SA.star (SA.star A B) C) (SA.star A (SA.star B C)) := by
  rintro w O R ⟨O1, R1, O2, R2, ⟨O3, R3, O4, R4, hA, hB, g1, g2, g3, g4⟩, hC, h1, h2, h3, h4⟩
  refine ⟨O3, R3, fun k => O4 k ∨ O2 k, fun k => R4 k ∨ R2 k, hA, ⟨O4, R4, O2, R2, hB, hC, ?_, ?_, fun k hk => .inl hk, fun k hk => .inr hk⟩, ?_, ?_, ?_, ?_⟩
  · intro k hk
    exact ⟨.inl hk, (h1 k (g2 k hk).1).2⟩
  · intro k hk
    exact ⟨.inr hk, fun e => (h2 k hk).2 (g4 k e)⟩
  · intro k hk
    refine ⟨(h1 k (g1 k hk).1).1, ?_, ?_⟩
    · rintro (e | e)
      · exact (g1 k hk).2.1 e
      · exact (h1 k (g1 k hk).1).2.1 e
    · rintro (e | e)
      · exact (g1 k hk).2.2 e
      · exact (h1 k (g1 k hk).1).2.2 e
  · rintro k (hk | hk)
    · exact ⟨(h1 k (g2 k hk).1).1, (g2 k hk).2⟩
    · exact ⟨(h2 k hk).1, fun e => (h2 k hk).2 (g3 k e)⟩
  · intro k hk; exact h3 k (g3 k hk)
  · rintro k (hk | hk)
    · exact h3 k (g4 k hk)
    · exact h4 k hk
theorem SA.Le.assoc' : SA.Le (SA.star A (SA.star B C)) (SA.star (SA.star A B) C) := by
  rintro w O R ⟨O1, R1, O2, R2, hA, ⟨O3, R3, O4, R4, hB, hC, g1, g2, g3, g4⟩, h1, h2, h3, h4⟩
  refine ⟨fun k => O1 k ∨ O3 k, fun k => R1 k ∨ R3 k, O4, R4, ⟨O1, R1, O3, R3, hA, hB, ?_, ?_, fun k hk => .inl hk, fun k hk => .inr hk⟩, hC, ?_, ?_, ?_, ?_⟩
  · intro k hk
    exact ⟨.inl hk, fun e => (h1 k hk).2.1 (g1 k e).1, fun e => (h1 k hk).2.2 (g3 k e)⟩
  · intro k hk
    exact ⟨.inr hk, fun e => (h2 k (g1 k hk).1).2 e⟩
  · rintro k (hk | hk)
    · exact ⟨(h1 k hk).1, fun e => (h1 k hk).2.1 (g2 k e).1, fun e => (h1 k hk).2.2 (g4 k e)⟩
    · exact ⟨(h2 k (g1 k hk).1).1, (g1 k hk).2.1, (g1 k hk).2.2⟩
  · intro k hk
    refine ⟨(h2 k (g2 k hk).1).1, ?_⟩
    rintro (e | e)
    · exact (h2 k (g2 k hk).1).2 e
    · exact (g2 k hk).2 e
  · rintro k (hk | hk)
    · exact h3 k hk
    · exact h4 k (g3 k hk)
  · intro k hk; exact h4 k (g4 k hk)
theorem St.le {L L' : List SA} (h : St L w) (k : SA.Le (SA.all L) (SA.all L')) : St L' w := let ⟨O, R, h1, h2⟩ := h; ⟨O, R, k _ _ _ h1, h2⟩

section
variable {A0 A1 A2 A3 A4 A5 A6 A7 : SA}
theorem SA.Le.up2 : SA.Le (SA.star A0 (SA.star A1 (SA.star A2 C))) (SA.star A2 (SA.star A0 (SA.star A1 C))) := (SA.Le.star (.refl _) .swap).trans .swap
theorem SA.Le.up3 : SA.Le (SA.star A0 (SA.star A1 (SA.star A2 (SA.star A3 C)))) (SA.star A3 (SA.star A0 (SA.star A1 (SA.star A2 C)))) := (SA.Le.star (.refl _) .up2).trans .swap
theorem SA.Le.up4 : SA.Le (SA.star A0 (SA.star A1 (SA.star A2 (SA.star A3 (SA.star A4 C))))) (SA.star A4 (SA.star A0 (SA.star A1 (SA.star A2 (SA.star A3 C))))) := (SA.Le.star (.refl _) .up3).trans .swap
theorem SA.Le.up5 : SA.Le (SA.star A0 (SA.star A1 (SA.star A2 (SA.star A3 (SA.star A4 (SA.star A5 C)))))) (SA.star A5 (SA.star A0 (SA.star A1 (SA.star A2 (SA.star A3 (SA.star A4 C)))))) := (SA.Le.star (.refl _) .up4).trans .swap
theorem SA.Le.up6 : SA.Le (SA.star A0 (SA.star A1 (SA.star A2 (SA.star A3 (SA.star A4 (SA.star A5 (SA.star A6 C))))))) (SA.star A6 (SA.star A0 (SA.star A1 (SA.star A2 (SA.star A3 (SA.star A4 (SA.star A5 C))))))) := (SA.Le.star (.refl _) .up5).trans .swap
theorem SA.Le.up7 : SA.Le (SA.star A0 (SA.star A1 (SA.star A2 (SA.star A3 (SA.star A4 (SA.star A5 (SA.star A6 (SA.star A7 C)))))))) (SA.star A7 (SA.star A0 (SA.star A1 (SA.star A2 (SA.star A3 (SA.star A4 (SA.star A5 (SA.star A6 C)))))))) := (SA.Le.star (.refl _) .up6).trans .swap
theorem St.up1 (h : St (A0 :: A1 :: L) w) : St (A1 :: A0 :: L) w := h.le .swap
theorem St.up2 (h : St (A0 :: A1 :: A2 :: L) w) : St (A2 :: A0 :: A1 :: L) w := h.le .up2
theorem St.up3 (h : St (A0 :: A1 :: A2 :: A3 :: L) w) : St (A3 :: A0 :: A1 :: A2 :: L) w := h.le .up3
theorem St.up4 (h : St (A0 :: A1 :: A2 :: A3 :: A4 :: L) w) : St (A4 :: A0 :: A1 :: A2 :: A3 :: L) w := h.le .up4
theorem St.up5 (h : St (A0 :: A1 :: A2 :: A3 :: A4 :: A5 :: L) w) : St (A5 :: A0 :: A1 :: A2 :: A3 :: A4 :: L) w := h.le .up5
theorem St.up6 (h : St (A0 :: A1 :: A2 :: A3 :: A4 :: A5 :: A6 :: L) w) : St (A6 :: A0 :: A1 :: A2 :: A3 :: A4 :: A5 :: L) w := h.le .up6
theorem St.up7 (h : St (A0 :: A1 :: A2 :: A3 :: A4 :: A5 :: A6 :: A7 :: L) w) : St (A7 :: A0 :: A1 :: A2 :: A3 :: A4 :: A5 :: A6 :: L) w := h.le .up7
/-- the head put below the next k -/
theorem St.dn1 (h : St (A0 :: A1 :: L) w) : St (A1 :: A0 :: L) w := h.up1
theorem St.dn2 (h : St (A0 :: A1 :: A2 :: L) w) : St (A1 :: A2 :: A0 :: L) w := h.up2.up2
theorem St.dn3 (h : St (A0 :: A1 :: A2 :: A3 :: L) w) : St (A1 :: A2 :: A3 :: A0 :: L) w := h.up3.up3.up3
theorem St.dn4 (h : St (A0 :: A1 :: A2 :: A3 :: A4 :: L) w) : St (A1 :: A2 :: A3 :: A4 :: A0 :: L) w := h.up4.up4.up4.up4
end
theorem St.star (h : St (SA.star A B :: L) w) : St (A :: B :: L) w := h.le .assoc
theorem St.unstar (h : St (A :: B :: L) w) : St (SA.star A B :: L) w := h.le .assoc'
theorem St.ex {α : Type} {f : α → SA} (h : St (SA.ex f :: L) w) : ∃ x, St (f x :: L) w := by
  obtain ⟨O, R, ⟨O1, R1, O2, R2, ⟨x, hA⟩, r⟩, hb⟩ := h
  exact ⟨x, O, R, ⟨O1, R1, O2, R2, hA, r⟩, hb⟩
theorem St.unex {α : Type} {f : α → SA} (x : α) (h : St (f x :: L) w) : St (SA.ex f :: L) w := h.mono fun _ _ hA => ⟨x, hA⟩
theorem St.pure {q : Prop} (h : St (SA.pure q :: L) w) : q ∧ St L w := ⟨let ⟨_, _, h, _⟩ := h.hd; h, h.tl⟩
theorem St.emp (h : St L w) : St (SA.emp :: L) w := by
  obtain ⟨O, R, hL, hb⟩ := h
  exact ⟨O, R, ⟨fun _ => False, fun _ => False, O, R, trivial, hL, by simp, by simp, by simp, by simp⟩, hb⟩
theorem St.unpure {q : Prop} (hq : q) (h : St L w) : St (SA.pure q :: L) w := h.emp.mono fun _ _ _ => hq
/-- what is owned by nobody else may be split off, read -/
theorem St.start (w : World) : St [SA.old w] w := ⟨fun _ => False, fun k => k < w.heap.size, ⟨fun _ => False, fun k => k < w.heap.size, fun _ => False, fun _ => False, ⟨fun _ h => h, Fr.refl _ _⟩, trivial, by simp, by simp, by simp, by simp⟩, fun k h => h.elim (fun h => h.elim) id⟩

-- what the world does
theorem St.fr (h : St L w) (hf : Fr [] w w') : St L w' := by
  obtain ⟨O, R, hL, hb⟩ := h
  exact ⟨O, R, (SA.all L).loc hL (Ag.fr hf (by simp)), fun k hk => Nat.lt_of_lt_of_le (hb k hk) hf.size⟩
theorem St.drew (h : St L w) : St L w.drew := h.fr (Fr.refl [] _).drew
theorem St.drewN (h : St L w) (k : Nat) : St L (w.drewN k) := h.fr ((Fr.refl [] _).drewN k)
theorem St.alloc (h : St L w) (o : Obj) : St L (w.alloc o) := h.fr ((Fr.refl [] _).alloc o)
theorem St.new (h : St L w) (cs : Array Value) (t : TypeId) : St (SA.blk w.heap.size cs t :: L) (w.alloc (.cells cs t)) :=
  h.emp.upd fun O R _ _ => ⟨fun k => k = w.heap.size, fun _ => False, ⟨rfl, Blk.new w cs t⟩, fun k hk => .inr (by subst hk; simp), by simp, Ag.fr ((Fr.refl [] _).alloc _) (by simp)⟩
theorem St.newOwn (h : St L w) (e : TypeId) (sz n : Nat) (cs : Array Value) (hl : cs.size = n * sz) (h1 : ∀ u ∈ cs.toList, u.oneCell' = true) (hm : n ≤ maxLen) :
    St (SA.owns e sz (.slice (some ⟨w.heap.size, 0, none⟩) n n) n cs.toList :: L) (w.alloc (.cells cs e)) :=
  h.emp.upd fun O R _ _ => ⟨fun k => k = w.heap.size, fun _ => False, ⟨by simp [own], Own.new w e sz n cs hl h1 hm⟩, fun k hk => .inr (by subst hk; simp), by simp, Ag.fr ((Fr.refl [] _).alloc _) (by simp)⟩
theorem St.nil (h : St L w) (e : TypeId) (sz : Nat) : St (SA.owns e sz (.slice none 0 0) 0 [] :: L) w := h.emp.mono fun _ _ _ => ⟨by simp [own], Own.nil w e sz⟩
theorem St.set {b : Nat} {cs : Array Value} {t : TypeId} (h : St (SA.blk b cs t :: L) w) (i : Nat) (v : Value) : St (SA.blk b (cs.setIfInBounds i v) t :: L) (w.setCell ⟨b, i, none⟩ v) :=
  h.upd fun O R hA _ => ⟨O, R, ⟨hA.1, hA.2.set i v⟩, fun k hk => .inl hk, fun k hk => .inr (.inl hk), Ag.fr ((Fr.refl [b] w).set (by simp) v) (fun k hk e => by simp at e; subst e; exact hk hA.1)⟩
theorem St.setCells {b : Nat} {cs : Array Value} {t : TypeId} (h : St (SA.blk b cs t :: L) w) (i : Nat) (vs : List Value) : St (SA.blk b (writeAt cs i vs) t :: L) (w.setCells b i vs) :=
  h.upd fun O R hA _ => ⟨O, R, ⟨hA.1, hA.2.setCells vs w cs i⟩, fun k hk => .inl hk, fun k hk => .inr (.inl hk), Ag.fr (Fr.setCells (S := [b]) vs w i (Fr.refl _ _) (by simp)) (fun k hk e => by simp at e; subst e; exact hk hA.1)⟩
/-- the head's blocks written, by a contract of the old form -/
theorem St.frS {S : List Nat} (h : St (A :: L) w) (hf : Fr S w w') (hA : ∀ O R, A.p w O R → (∀ k ∈ S, O k) ∧ ∃ O' R', A'.p w' O' R' ∧ (∀ k, O' k → O k ∨ (w.heap.size ≤ k ∧ k < w'.heap.size)) ∧ (∀ k, R' k → O k ∨ R k ∨ (w.heap.size ≤ k ∧ k < w'.heap.size))) : St (A' :: L) w' :=
  h.upd fun O R hp _ => let ⟨h1, O', R', h2, h3, h4⟩ := hA O R hp; ⟨O', R', h2, h3, h4, Ag.fr hf (fun k hk e => hk (h1 k e))⟩
/-- a slice that a call has made -/
theorem St.made (h : St L w) {e : TypeId} {sz : Nat} {v : Value} {n : Nat} {cs : List Value} (ho : Own w' e sz v n cs) (hf : Fr [] w w') (hn : ∀ k ∈ own v, w.heap.size ≤ k) : St (SA.owns e sz v n cs :: L) w' :=
  h.emp.upd fun O R _ _ => ⟨fun k => k ∈ own v, fun _ => False, ⟨fun _ h => h, ho⟩, fun k hk => .inr ⟨hn k hk, ho.lt k hk⟩, by simp, Ag.fr hf (by simp)⟩

-- what an atom tells
theorem St.old {w0 : World} (h : St (SA.old w0 :: L) w) : Fr [] w0 w := let ⟨_, _, h, _⟩ := h.hd; h.2
theorem St.isBlk {b : Nat} {cs : Array Value} {t : TypeId} (h : St (SA.blk b cs t :: L) w) : Blk w b cs t := let ⟨_, _, h, _⟩ := h.hd; h.2
theorem St.cell {b : Nat} {cs : Array Value} {t : TypeId} (h : St (SA.blk b cs t :: L) w) (i : Nat) : w.cell? ⟨b, i, none⟩ = cs[i]? := h.isBlk.cell i
theorem St.frozen {b : Nat} {cs : Array Value} {t : TypeId} (h : St (SA.blk b cs t :: L) w) (i : Nat) : w.frozen? ⟨b, i, none⟩ = false := h.isBlk.frozen i
theorem St.lt {b : Nat} {cs : Array Value} {t : TypeId} (h : St (SA.blk b cs t :: L) w) : b < w.heap.size := h.isBlk.lt
theorem St.isRblk {b : Nat} {cs : Array Value} {t : TypeId} (h : St (SA.rblk b cs t :: L) w) : Blk w b cs t := let ⟨_, _, h, _⟩ := h.hd; h.2
theorem St.isOwn {e : TypeId} {sz : Nat} {v : Value} {n : Nat} {cs : List Value} (h : St (SA.owns e sz v n cs :: L) w) : Own w e sz v n cs := let ⟨_, _, h, _⟩ := h.hd; h.2
theorem St.isRd {sz : Nat} {v : Value} {n : Nat} {cs : List Value} (h : St (SA.rds sz v n cs :: L) w) : Rd w sz v n cs := let ⟨_, _, h, _⟩ := h.hd; h.2
theorem St.kept {φ : World → Prop} {S : Nat → Prop} {hφ : ∀ {w w' : World}, φ w → Ag S w w' → φ w'} (h : St (SA.keep φ S hφ :: L) w) : φ w := let ⟨_, _, h, _⟩ := h.hd; h.2
/-- apart -/
theorem St.ne {b b' : Nat} {cs cs' : Array Value} {t t' : TypeId} (h : St (SA.blk b cs t :: SA.blk b' cs' t' :: L) w) : b ≠ b' := by
  obtain ⟨O, R, ⟨O1, R1, O2, R2, hA, ⟨O3, R3, O4, R4, hB, hL, g1, g2, g3, g4⟩, h1, h2, h3, h4⟩, hb⟩ := h
  rintro rfl
  exact (h1 _ hA.1).2.1 (g1 _ hB.1).1
theorem St.neOwn {b : Nat} {cs : Array Value} {t : TypeId} {e : TypeId} {sz : Nat} {v : Value} {n : Nat} {cs' : List Value} (h : St (SA.blk b cs t :: SA.owns e sz v n cs' :: L) w) : ∀ k ∈ own v, b ≠ k := by
  obtain ⟨O, R, ⟨O1, R1, O2, R2, hA, ⟨O3, R3, O4, R4, hB, hL, g1, g2, g3, g4⟩, h1, h2, h3, h4⟩, hb⟩ := h
  rintro k hk rfl
  exact (h1 _ hA.1).2.1 (g1 _ (hB.1 _ hk)).1
theorem St.ge {w0 : World} {b : Nat} {cs : Array Value} {t : TypeId} (h : St (SA.blk b cs t :: SA.old w0 :: L) w) : w0.heap.size ≤ b := by
  obtain ⟨O, R, ⟨O1, R1, O2, R2, hA, ⟨O3, R3, O4, R4, hB, hL, g1, g2, g3, g4⟩, h1, h2, h3, h4⟩, hb⟩ := h
  refine Nat.le_of_not_lt fun hlt => ?_
  exact (h1 _ hA.1).2.2 (g3 _ (hB.1 _ hlt))
theorem St.ownGe {w0 : World} {e : TypeId} {sz : Nat} {v : Value} {n : Nat} {cs : List Value} (h : St (SA.owns e sz v n cs :: SA.old w0 :: L) w) : ∀ k ∈ own v, w0.heap.size ≤ k := by
  obtain ⟨O, R, ⟨O1, R1, O2, R2, hA, ⟨O3, R3, O4, R4, hB, hL, g1, g2, g3, g4⟩, h1, h2, h3, h4⟩, hb⟩ := h
  refine fun k hk => Nat.le_of_not_lt fun hlt => ?_
  exact (h1 _ (hA.1 k hk)).2.2 (g3 _ (hB.1 _ hlt))
/-- owned, then read only -/
theorem St.freeze {e : TypeId} {sz : Nat} {v : Value} {n : Nat} {cs : List Value} (h : St (SA.owns e sz v n cs :: L) w) : St (SA.rds sz v n cs :: L) w :=
  h.imp fun O R hA => ⟨fun _ => False, O, ⟨fun _ => hA.1, hA.2.rd⟩, by simp, fun k hk => .inl hk⟩
theorem St.freezeB {b : Nat} {cs : Array Value} {t : TypeId} (h : St (SA.blk b cs t :: L) w) : St (SA.rblk b cs t :: L) w :=
  h.imp fun O R hA => ⟨fun _ => False, O, hA, by simp, fun k hk => .inl hk⟩
/-- a block seen as a slice of one's own, and back -/
theorem St.asOwn {b : Nat} {cs : Array Value} {t : TypeId} (h : St (SA.blk b cs t :: L) w) (sz n : Nat) (hl : cs.size = n * sz) (h1 : ∀ u ∈ cs.toList, u.oneCell' = true) (hm : n ≤ maxLen) :
    St (SA.owns t sz (.slice (some ⟨b, 0, none⟩) n n) n cs.toList :: L) w :=
  h.mono fun O R hA => ⟨by simp [Go.Proofs.Ytomplpdeeomehaa.own, hA.1], by simpa using hl, h1, .inr ⟨_, 0, n, cs, rfl, hA.2, Nat.le_refl _, hm, by omega, by rw [List.drop_zero]; exact List.take_of_length_le (by simp [hl])⟩⟩
/-- 'append', for the walk, in a state -/
theorem St.app {P : Program} {ops : Array Oper} {rest : List Oper} {o : Oper} {a : Act} {Q : Exit → Act → World → Prop}
    (hg : o.guard = none) (s x : Operand) (t tx : TypeId) (hop : o.op = Op.call { callee := Callee.builtin Builtin.append, args := #[s, x], argTypes := #[t, tx] })
    {e sz bytes : Nat} {z : Value} (E : Elt P t e sz bytes z) {v : Value} {n m : Nat} {cs news : List Value}
    (h : St (SA.owns e sz v n cs :: L) w) (hs : a.eval s = v) (hx : Src P sz tx (a.eval x) m news w) (b1 : n + m ≤ maxLen) (b2 : (n + m) * bytes ≤ 140737488355328)
    (hK : ∀ v' w', St (SA.owns e sz v' (n + m) (cs ++ news) :: L) w' → Fr (own v) w w' → (∀ k ∈ own v', k ∈ own v ∨ w.heap.size ≤ k) → (v' = .slice none 0 0 ↔ v = .slice none 0 0 ∧ m = 0) → wpList P ops Q rest (a.put o.dst v') w') :
    wpList P ops Q (o :: rest) a w :=
  wpList_app hg s x t tx hop E h.isOwn hs hx b1 b2 fun v' w' h1 h2 h3 h4 => hK v' w' (h.frS h2 fun O R hA => ⟨hA.1, fun k => k ∈ own v', R, ⟨fun _ h => h, h1⟩, fun k hk => (h3 k hk).imp (hA.1 k) (fun h => ⟨h, h1.lt k hk⟩), fun k hk => .inr (.inl hk)⟩) h2 h3 h4
theorem St.step_app {P : Program} {ops : Array Oper} {o : Oper} {a : Act} {K : Act → World → Prop} {Q : Exit → Act → World → Prop} {X : Prop}
    (hg : o.guard = none) (s x : Operand) (t tx : TypeId) (hop : o.op = Op.call { callee := Callee.builtin Builtin.append, args := #[s, x], argTypes := #[t, tx] })
    {e sz bytes : Nat} {z : Value} (E : Elt P t e sz bytes z) {v : Value} {n m : Nat} {cs news : List Value}
    (h : St (SA.owns e sz v n cs :: L) w) (hs : a.eval s = v) (hx : Src P sz tx (a.eval x) m news w) (b1 : n + m ≤ maxLen) (b2 : (n + m) * bytes ≤ 140737488355328)
    (hK : ∀ v' w', St (SA.owns e sz v' (n + m) (cs ++ news) :: L) w' → Fr (own v) w w' → (∀ k ∈ own v', k ∈ own v ∨ w.heap.size ≤ k) → (v' = .slice none 0 0 ↔ v = .slice none 0 0 ∧ m = 0) → K (a.put o.dst v') w') :
    if Region.wanted o (yielded ops a.tmps) = true then Oper.wp P o a w K Q else X :=
  _root_.Go.Proofs.Ytomplpdeeomehaa.step_app hg s x t tx hop E h.isOwn hs hx b1 b2 fun v' w' h1 h2 h3 h4 => hK v' w' (h.frS h2 fun O R hA => ⟨hA.1, fun k => k ∈ own v', R, ⟨fun _ h => h, h1⟩, fun k hk => (h3 k hk).imp (hA.1 k) (fun h => ⟨h, h1.lt k hk⟩), fun k hk => .inr (.inl hk)⟩) h2 h3 h4
end
end Go.Proofs.Ytomplpdeeomehaa
