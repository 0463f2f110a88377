/- Lending: a function that only reads is handed what is owned. No program is named. -/
import Derived.Test.YtomplpdeeomehaaHX
namespace Go.Proofs.Ytomplpdeeomehaa
set_option linter.unusedVariables false
set_option linter.unusedSimpArgs false
open Go.RowKit
section
variable {P : Program} {N : Nat} {F : FE} {As Bs L L0 : List SA} {A B : SA} {w : World}
/-- B can be read where A is -/
def Lend1 (A B : SA) : Prop := ∀ w O R, A.p w O R → ∃ R', B.p w (fun _ => False) R' ∧ ∀ k, R' k → O k ∨ R k
theorem Lend1.same (h : Dup A) : Lend1 A A := fun w O R hp => ⟨R, h w O R hp, fun _ h => .inr h⟩
theorem Lend1.own {e sz n : Nat} {v : Value} {cs : List Value} : Lend1 (SA.owns e sz v n cs) (SA.rds sz v n cs) := fun w O R h => ⟨O, ⟨fun _ => h.1, h.2.rd⟩, fun _ h => .inl h⟩
theorem Lend1.rds {sz n : Nat} {v : Value} {cs : List Value} : Lend1 (SA.rds sz v n cs) (SA.rds sz v n cs) := Lend1.same Dup.rds
theorem Lend1.blk {b t : Nat} {cs : Array Value} : Lend1 (SA.blk b cs t) (SA.rblk b cs t) := fun w O R h => ⟨O, h, fun _ h => .inl h⟩
inductive Lend : List SA → List SA → Prop
  | nil : Lend [] []
  | cons {A B : SA} {As Bs : List SA} : Lend1 A B → Lend As Bs → Lend (A :: As) (B :: Bs)
theorem Lend.all (h : Lend As Bs) : Lend1 (SA.all As) (SA.all Bs) := by
  induction h with
  | nil => exact fun w O R _ => ⟨fun _ => False, trivial, fun _ h => h.elim⟩
  | cons h1 _ ih =>
    rintro w O R ⟨O1, R1, O2, R2, hA, hL, r1, r2, r3, r4⟩
    obtain ⟨R1', hA', e1⟩ := h1 _ _ _ hA
    obtain ⟨R2', hL', e2⟩ := ih _ _ _ hL
    refine ⟨fun k => R1' k ∨ R2' k, ⟨fun _ => False, R1', fun _ => False, R2', hA', hL', fun _ h => h.elim, fun _ h => h.elim, fun _ h => .inl h, fun _ h => .inr h⟩, ?_⟩
    rintro k (h | h)
    · exact (e1 k h).elim (fun h => .inl (r1 k h).1) (fun h => .inr (r3 k h))
    · exact (e2 k h).elim (fun h => .inl (r2 k h).1) (fun h => .inr (r4 k h))
/-- owned alone -/
def OO (A : SA) : Prop := ∀ w O R, A.p w O R → A.p w O (fun _ => False)
theorem OO.owns {e sz n : Nat} {v : Value} {cs : List Value} : OO (SA.owns e sz v n cs) := fun _ _ _ h => h
theorem OO.blk {b t : Nat} {cs : Array Value} : OO (SA.blk b cs t) := fun _ _ _ h => h
theorem OO.all : ∀ Ln : List SA, (∀ A, In A Ln → OO A) → OO (SA.all Ln)
  | [], _ => fun _ _ _ _ => trivial
  | A :: Ln, h => fun w O R ⟨O1, R1, O2, R2, hA, hL, r1, r2, r3, r4⟩ =>
    ⟨O1, fun _ => False, O2, fun _ => False, h A In.here w O1 R1 hA, OO.all Ln (fun B hB => h B (In.there hB)) w O2 R2 hL, fun k hk => ⟨(r1 k hk).1, (r1 k hk).2.1, id⟩, fun k hk => ⟨(r2 k hk).1, id⟩, fun _ h => h, fun _ h => h⟩
/-- it can be come back to -/
def SA.lease (Z : SA) : SA := ⟨fun w O R => ∃ O0 R0, Z.p w O0 R0 ∧ (∀ k, O0 k → R k) ∧ (∀ k, R0 k → R k), fun {w w' O R} ⟨O0, R0, h, h1, h2⟩ hg => ⟨O0, R0, Z.loc h (hg.mono fun k _ hk => .inr (hk.elim (h1 k) (h2 k))), h1, h2⟩⟩
theorem St.all {L : List SA} : St L w ↔ St [SA.all L] w := by
  constructor
  · intro h
    have := (Ent.doall L).st (by rw [List.append_nil]; exact h)
    exact this
  · intro h
    have := (Ent.unall (L := []) L).st h
    rwa [List.append_nil] at this
theorem Fn.lend {f : FuncId} {args : List Value} {R : Value → List SA → Prop} (hl : Lend As Bs) (h : Fn P f args Bs (fun v L' => ∃ Ln, R v Ln ∧ (∀ A, In A Ln → OO A) ∧ L' = Ln ++ Bs)) (L : List SA) :
    Fn P f args (As ++ L) (fun v L' => ∃ Ln, R v Ln ∧ L' = Ln ++ (As ++ L)) := fun X w hw => by
  -- Z: all there is
  have hZ : St [SA.star (SA.all As) (SA.star X (SA.all L))] w := by
    have h1 : Ent (X :: (As ++ L)) [SA.star (SA.all As) (SA.star X (SA.all L))] := by
      have e1 : Ent (X :: (As ++ L)) (X :: SA.all As :: L) := Ent.under _ (Ent.doall As)
      have e2 : Ent (X :: SA.all As :: L) (SA.all As :: X :: L) := Ent.swap
      have e3 : Ent (SA.all As :: X :: L) (SA.all As :: X :: [SA.all L]) := Ent.under _ (Ent.under _ (by have := Ent.doall (L := []) L; rwa [List.append_nil] at this))
      exact e1.trans (e2.trans (e3.trans ((Ent.unstarE.under _).trans Ent.unstarE)))
    exact h1.st hw
  generalize hz : SA.star (SA.all As) (SA.star X (SA.all L)) = Z at hZ
  obtain ⟨O0, R0, ⟨O1, R1, O2, R2, hA, -, r1, r2, r3, r4⟩, hb⟩ := hZ
  have hZp : Z.p w O1 R1 := hA
  have hlent : ∃ R', (SA.all Bs).p w (fun _ => False) R' ∧ ∀ k, R' k → O1 k ∨ R1 k := by
    rw [← hz] at hZp
    obtain ⟨O3, R3, O4, R4, hAs, -, q1, -, q3, -⟩ := hZp
    obtain ⟨R', g1, g2⟩ := hl.all _ _ _ hAs
    exact ⟨R', g1, fun k hk => (g2 k hk).elim (fun h => .inl (q1 k h).1) (fun h => .inr (q3 k h))⟩
  obtain ⟨R', hB, hR'⟩ := hlent
  have hbd : ∀ k, O1 k ∨ R1 k → k < w.heap.size := fun k hk => hb k (hk.imp (fun h => (r1 k h).1) (fun h => r3 k h))
  have hst : St (SA.lease Z :: Bs) w := by
    have : St [SA.star (SA.lease Z) (SA.all Bs)] w := ⟨fun _ => False, fun k => O1 k ∨ R1 k, ⟨fun _ => False, fun k => O1 k ∨ R1 k, fun _ => False, fun _ => False,
      ⟨fun _ => False, fun k => O1 k ∨ R1 k, fun _ => False, R', ⟨O1, R1, hA, fun _ h => .inl h, fun _ h => .inr h⟩, hB, fun _ h => h.elim, fun _ h => h.elim, fun _ h => h, hR'⟩, trivial, fun _ h => h.elim, fun _ h => h.elim, fun _ h => h, fun _ h => h.elim⟩, fun k hk => hk.elim (fun h => h.elim) (hbd k)⟩
    have h2 := Ent.starE.st this
    have h3 := ((Ent.unall (L := []) Bs).under _).st h2
    rwa [List.append_nil] at h3
  refine (h (SA.lease Z) w hst).mono ?_
  rintro e w' ⟨v, L', rfl, ⟨Ln, hR, hoo, rfl⟩, hw'⟩
  refine ⟨v, Ln ++ (As ++ L), rfl, ⟨Ln, hR, rfl⟩, ?_⟩
  -- the new ones and the lease
  have h1 : St [SA.lease Z, SA.all Ln] w' := by
    have e : Ent (SA.lease Z :: (Ln ++ Bs)) [SA.lease Z, SA.all Ln] := Ent.under _ ((Ent.doall Ln).trans (Ent.under _ Ent.nil))
    exact e.st hw'
  obtain ⟨O, R, ⟨O5, R5, O6, R6, ⟨O7, R7, hz7, g1, g2⟩, ⟨O8, R8, O9, R9, hn, -, s1, -, s3, -⟩, q1, q2, q3, q4⟩, hb'⟩ := h1
  have hn' := OO.all Ln hoo _ _ _ hn
  have h2 : St [SA.star (SA.all Ln) Z] w' := by
    refine ⟨fun k => O8 k ∨ O7 k, R7, ⟨fun k => O8 k ∨ O7 k, R7, fun _ => False, fun _ => False, ⟨O8, fun _ => False, O7, R7, hn', hz7, fun k hk => ⟨.inl hk, fun e => ?_, fun e => ?_⟩, fun k hk => ⟨.inr hk, id⟩, fun _ h => h.elim, fun _ h => h⟩, trivial, fun k hk => ⟨hk, id, id⟩, fun _ h => h.elim, fun _ h => h, fun _ h => h.elim⟩, ?_⟩
    · exact (q2 k (s1 k hk).1).2 (g1 k e)
    · exact (q2 k (s1 k hk).1).2 (g2 k e)
    · rintro k ((hk | hk) | hk)
      · exact hb' k (.inl (q2 k (s1 k hk).1).1)
      · exact hb' k (.inr (q3 k (g1 k hk)))
      · exact hb' k (.inr (q3 k (g2 k hk)))
  have e : Ent [SA.star (SA.all Ln) Z] (X :: (Ln ++ (As ++ L))) := by
    refine Ent.starE.trans ?_
    rw [← hz]
    refine (Ent.under _ Ent.starE).trans ?_
    refine (Ent.under _ (Ent.under _ Ent.starE)).trans ?_
    refine Ent.cons (A := X) (Pull.there (Pull.there Pull.here)) ?_
    refine (Ent.unall Ln).trans ?_
    have e1 : Ent [SA.all As, SA.all L] (As ++ L) := by
      refine (Ent.unall As).trans ?_
      have e0 : ∀ M : List SA, Ent (M ++ [SA.all L]) (M ++ L) := fun M => by
        induction M with
        | nil => have := Ent.unall (L := []) L; rwa [List.append_nil] at this
        | cons B M ih => exact ih.under B
      exact e0 As
    have e2 : ∀ M : List SA, Ent (M ++ [SA.all As, SA.all L]) (M ++ (As ++ L)) := fun M => by
      induction M with
      | nil => exact e1
      | cons B M ih => exact ih.under B
    exact e2 Ln
  exact e.st h2
/-- nothing new is handed back -/
theorem Fn.lend0 {f : FuncId} {args : List Value} {φ : Value → Prop} (hl : Lend As Bs) (h : Fn P f args Bs (fun v L' => φ v ∧ L' = Bs)) (L : List SA) : Fn P f args (As ++ L) (fun v L' => φ v ∧ L' = As ++ L) :=
  (Fn.lend (R := fun v Ln => φ v ∧ Ln = []) hl (h.mono fun v L' ⟨h1, h2⟩ => ⟨L', Ent.refl, [], ⟨h1, rfl⟩, fun A hA => (by cases hA), by rw [h2]; rfl⟩) L).mono fun v L' ⟨Ln, ⟨h1, h2⟩, h3⟩ => ⟨L', Ent.refl, h1, by rw [h3, h2]; rfl⟩
end
end Go.Proofs.Ytomplpdeeomehaa
