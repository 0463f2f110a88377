/- A Hoare logic over the walks: frames as lists of slots, worlds as lists of atoms; a rule for each form of code. No program is named. -/
import Derived.Test.YtomplpdeeomehaaSl
import Derived.OrdersHeld
import Derived.WalkKit
import Derived.Deep.LoopGhost
import Derived.RegionTactic
import Derived.RangeFuncNested
import Derived.OrdersIn
import Derived.OwnWalkIn
import Derived.RangeFuncCalls
import Derived.RangeFuncLeaves
import Derived.Sort.LoopGhostIn
namespace Go.Proofs.Ytomplpdeeomehaa
set_option linter.unusedVariables false
set_option linter.unusedSimpArgs false
open Go.RowKit

/-- What is known of the slots: the first entry counts. -/
abbrev FE := List (Nat × Option Value)
def fget : FE → Nat → Option Value
  | [], _ => none
  | (t, v) :: r, n => cond (Nat.beq t n) v (fget r n)
structure Env (N : Nat) (F : FE) (a : Act) : Prop where
  get : ∀ t v, fget F t = some v → a.tmps.getD t undef = v
  size : a.tmps.size = N
def evO (F : FE) : Operand → Option Value
  | .tmp t => fget F t
  | .const v => some v
  | .global g => some (.pointer (some ⟨g, 0, none⟩))
  | .func f => some (.func (.func f) #[] #[])
def evA (F : FE) : List Operand → Option (List Value)
  | [] => some []
  | x :: r => match evO F x, evA F r with
    | some v, some vs => some (v :: vs)
    | _, _ => none
def argF : Nat → List Value → FE
  | _, [] => []
  | k, v :: r => (k, some v) :: argF (k + 1) r
/-- F' says no more than F. -/
def Sub (F : FE) : FE → Prop
  | [] => True
  | (t, some v) :: r => fget F t = some v ∧ Sub F r
  | (_, none) :: r => Sub F r

section
variable {N : Nat} {F F' : FE} {a : Act}
theorem Env.eval (h : Env N F a) {x : Operand} {v : Value} (hx : evO F x = some v) : a.eval x = v := by
  cases x with
  | tmp t => exact h.get t v hx
  | const c => simp [evO] at hx; exact hx
  | global g => simpa [evO, Act.eval] using hx
  | func f => simpa [evO, Act.eval] using hx
theorem Env.evalA (h : Env N F a) : ∀ {xs : List Operand} {vs : List Value}, evA F xs = some vs → xs.map a.eval = vs := by
  intro xs
  induction xs with
  | nil => intro vs hv; simp [evA] at hv; simp [hv]
  | cons x r ih =>
    intro vs hv
    simp only [evA] at hv
    split at hv
    · rename_i v vs' h1 h2
      simp at hv; subst hv
      simp [h.eval h1, ih h2]
    · cases hv
theorem Env.put (h : Env N F a) {d : Nat} (hd : Nat.blt d N = true) (v : Value) : Env N ((d, some v) :: F) (a.put (some d) v) := by
  have hd' : d < N := by simpa [Nat.blt_eq] using hd
  refine ⟨fun t u ht => ?_, by simpa [Act.put] using h.size⟩
  simp only [fget] at ht
  cases hb : Nat.beq d t with
  | true =>
    rw [hb] at ht
    have : d = t := Nat.eq_of_beq_eq_true hb
    subst this
    simp at ht; subst ht
    simp [Act.put, h.size, hd']
  | false =>
    rw [hb] at ht
    have hne : d ≠ t := Nat.ne_of_beq_eq_false hb
    have := h.get t u (by simpa using ht)
    simpa [Act.put, Array.getElem?_setIfInBounds_ne hne] using this
theorem Env.putNone (h : Env N F a) (v : Value) : Env N F (a.put none v) := h
theorem Sub.get (h : Sub F F') : ∀ t v, fget F' t = some v → fget F t = some v := by
  induction F' with
  | nil => intro t v h; cases h
  | cons x r ih =>
    obtain ⟨t0, v0⟩ := x
    intro t v ht
    simp only [fget] at ht
    cases hb : Nat.beq t0 t with
    | true =>
      rw [hb] at ht
      have : t0 = t := Nat.eq_of_beq_eq_true hb
      subst this
      simp at ht; subst ht
      exact h.1
    | false =>
      rw [hb] at ht
      cases v0 with
      | none => exact ih h t v ht
      | some v0 => exact ih h.2 t v ht
/-- F' says no more than F. -/
def Says (F F' : FE) : Prop := ∀ t v, fget F' t = some v → fget F t = some v
theorem Env.says (h : Env N F a) (hs : Says F F') : Env N F' a := ⟨fun t v ht => h.get t v (hs t v ht), h.size⟩
theorem Env.sub (h : Env N F a) (hs : Sub F F') : Env N F' a := ⟨fun t v ht => h.get t v (hs.get t v ht), h.size⟩
theorem fget_argF (vs : List Value) : ∀ k t, fget (argF k vs) t = if k ≤ t then vs[t - k]? else none := by
  induction vs with
  | nil => intro k t; simp [argF, fget]
  | cons v r ih =>
    intro k t
    simp only [argF, fget, ih]
    cases hb : Nat.beq k t with
    | true =>
      have : k = t := Nat.eq_of_beq_eq_true hb
      subst this; simp
    | false =>
      have hne : k ≠ t := Nat.ne_of_beq_eq_false hb
      simp only [cond_false]
      by_cases h : k ≤ t
      · rw [if_pos h, if_pos (by omega), show t - k = (t - (k + 1)) + 1 by omega]; simp
      · rw [if_neg h, if_neg (by omega)]
theorem Env.enter (vs : List Value) (n : Nat) : Env (vs.length + (n - vs.length)) (argF 0 vs) { tmps := vs.toArray ++ Array.replicate (n - vs.toArray.size) undef, defers := [] } := by
  refine ⟨fun t v h => ?_, by simp⟩
  rw [fget_argF] at h
  simp only [Nat.zero_le, if_true, Nat.sub_zero] at h
  have hlt : t < vs.length := (List.getElem?_eq_some_iff.1 h).1
  simp [Array.getElem?_append, hlt]
  exact (List.getElem?_eq_some_iff.1 h).2
end

/-- Each of these atoms holds (not: apart). -/
inductive In (A : SA) : List SA → Prop
  | here {L : List SA} : In A (A :: L)
  | there {B : SA} {L : List SA} : In A L → In A (B :: L)
def Holds (L : List SA) (w : World) : Prop := ∀ A, In A L → ∃ O R, A.p w O R
/-- A taken out of L. -/
inductive Pull (A : SA) : List SA → List SA → Prop
  | here {L : List SA} : Pull A (A :: L) L
  | there {B : SA} {L L' : List SA} : Pull A L L' → Pull A (B :: L) (B :: L')
/-- L says L' (and may say more). -/
def Ent (L L' : List SA) : Prop := ∀ w O R, (SA.all L).p w O R → ∃ O' R', (SA.all L').p w O' R' ∧ (∀ k, O' k → O k) ∧ (∀ k, R' k → O k ∨ R k)
section
variable {A B A' : SA} {L L' L0 L1 L2 : List SA} {w : World}
theorem St.holds (h : St L w) : Holds L w := by
  intro A hA
  induction hA with
  | here => obtain ⟨O, R, h, _⟩ := h.hd; exact ⟨O, R, h⟩
  | there _ ih => exact ih h.tl
theorem Ent.st (h : Ent L L') (k : St L w) : St L' w := by
  obtain ⟨O, R, hL, hb⟩ := k
  obtain ⟨O', R', h', h1, h2⟩ := h w O R hL
  exact ⟨O', R', h', fun k hk => hb k (hk.elim (fun h => .inl (h1 k h)) (h2 k))⟩
theorem Ent.of_le (h : SA.Le (SA.all L) (SA.all L')) : Ent L L' := fun w O R x => ⟨O, R, h w O R x, fun _ h => h, fun _ h => .inr h⟩
theorem Ent.refl : Ent L L := .of_le (SA.Le.refl _)
theorem Ent.trans (h : Ent L L1) (k : Ent L1 L2) : Ent L L2 := fun w O R x => by
  obtain ⟨O', R', h', h1, h2⟩ := h w O R x
  obtain ⟨O2, R2, k', k1, k2⟩ := k w O' R' h'
  exact ⟨O2, R2, k', fun x hx => h1 x (k1 x hx), fun x hx => (k2 x hx).elim (fun h => .inl (h1 x h)) (h2 x)⟩
theorem Ent.under (B : SA) (h : Ent L L') : Ent (B :: L) (B :: L') := by
  rintro w O R ⟨O1, R1, O2, R2, hA, hL, r1, r2, r3, r4⟩
  obtain ⟨O', R', hL', h1, h2⟩ := h w O2 R2 hL
  refine ⟨O, fun k => O k ∨ R k, ⟨O1, R1, O', R', hA, hL', fun k hk => ⟨(r1 k hk).1, fun e => (r1 k hk).2.1 (h1 k e), fun e => ?_⟩,
    fun k hk => r2 k (h1 k hk), fun k hk => .inr (r3 k hk), fun k hk => ?_⟩, fun _ h => h, fun _ h => h⟩
  · rcases h2 k e with e | e
    · exact (r1 k hk).2.1 e
    · exact (r1 k hk).2.2 e
  · rcases h2 k hk with e | e
    · exact .inl (r2 k e).1
    · exact .inr (r4 k e)
theorem Ent.drop : Ent (B :: L) L := by
  rintro w O R ⟨O1, R1, O2, R2, hA, hL, r1, r2, r3, r4⟩
  exact ⟨O2, R2, hL, fun k hk => (r2 k hk).1, fun k hk => .inr (r4 k hk)⟩
theorem Ent.skip (h : Ent L L') : Ent (B :: L) L' := Ent.drop.trans h
/-- the head, weakened or frozen -/
theorem Ent.imp (h : ∀ w O R, A.p w O R → ∃ O' R', A'.p w O' R' ∧ (∀ k, O' k → O k) ∧ (∀ k, R' k → O k ∨ R k)) : Ent (A :: L) (A' :: L) := by
  rintro w O R ⟨O1, R1, O2, R2, hA, hL, r1, r2, r3, r4⟩
  obtain ⟨O', R', hA', h1, h2⟩ := h w O1 R1 hA
  refine ⟨O, fun k => O k ∨ R k, ⟨O', R', O2, R2, hA', hL, fun k hk => r1 k (h1 k hk), fun k hk => ⟨(r2 k hk).1, fun e => ?_⟩, fun k hk => ?_, fun k hk => .inr (r4 k hk)⟩, fun _ h => h, fun _ h => h⟩
  · rcases h2 k e with e | e
    · exact (r1 k e).2.1 hk
    · exact (r2 k hk).2 e
  · rcases h2 k hk with e | e
    · exact .inl (r1 k e).1
    · exact .inr (r3 k e)
/-- an atom that owns nothing may be doubled -/
def Dup (A : SA) : Prop := ∀ w O R, A.p w O R → A.p w (fun _ => False) R
theorem Ent.dup (h : Dup A) : Ent (A :: L) (A :: A :: L) := by
  rintro w O R ⟨O1, R1, O2, R2, hA, hL, r1, r2, r3, r4⟩
  have hA' := h w O1 R1 hA
  refine ⟨O, R, ⟨fun _ => False, R1, O2, fun k => R1 k ∨ R2 k, hA', ⟨fun _ => False, R1, O2, R2, hA', hL, fun k hk => hk.elim, fun k hk => ⟨hk, (r2 k hk).2⟩, fun k hk => .inl hk, fun k hk => .inr hk⟩, fun k hk => hk.elim, fun k hk => ⟨(r2 k hk).1, (r2 k hk).2⟩, r3, fun k hk => hk.elim (r3 k) (r4 k)⟩, fun _ h => h, fun _ h => .inr h⟩
theorem Pull.le (h : Pull A L L') : SA.Le (SA.all L) (SA.all (A :: L')) := by
  induction h with
  | here => exact SA.Le.refl _
  | there _ ih => exact (SA.Le.star (.refl _) ih).trans .swap
theorem Pull.ent (h : Pull A L L') : Ent L (A :: L') := .of_le h.le
theorem Pull.st (h : Pull A L L') (k : St L w) : St (A :: L') w := k.le h.le
theorem Ent.nil : Ent L [] := fun _ _ _ _ => ⟨fun _ => False, fun _ => False, trivial, by simp, by simp⟩
theorem Ent.cons (h : Pull A L L0) (k : Ent L0 L') : Ent L (A :: L') := h.ent.trans (k.under A)
theorem Pull.there2 {C : SA} (h : Pull A L L') : Pull A (B :: C :: L) (B :: C :: L') := .there (.there h)
end

/-! ### The judgements -/
/-- a walk within a round of the loop r, or (none) of no round; X: what is hidden (of the caller) -/
structure Ctx where
  r : Option Nat
  X : SA
def fen (r : Option Nat) : Fence := { Fence.wide with round := r }
/-- an object that is owned, whatever it is -/
def SA.obj (b : Nat) (o : Obj) : SA := ⟨fun w O _ => O b ∧ w.heap[b]? = some o, fun {w w' O R} h hg => ⟨h.1, (hg.block b (by have := (Array.getElem?_eq_some_iff.1 h.2).1; exact this) (.inl h.1)).trans h.2⟩⟩
def mkD (D : Nat) : Deferred := { target := .collected D, args := #[] }
/-- the blocks for the rounds' deferred calls, of the ranges over functions that are behind -/
def SA.marks : List Nat → SA
  | [] => SA.emp
  | D :: ds => SA.star (SA.obj D (.deferred (some []))) (SA.marks ds)
def SA.hid (X : SA) (ds : List Nat) : SA := SA.star X (SA.marks ds)
def TC (κ : Ctx) (P : Program) (N : Nat) (c : Code) (F : FE) (L : List SA) (Q : Exit → Act → World → Prop) : Prop := ∀ ds a w, Env N F a → a.defers = ds.map mkD → St (SA.hid κ.X ds :: L) w → c.wpIn (fen κ.r) 0 P Q a w
def TQ (κ : Ctx) (N : Nat) (e : Exit) (F : FE) (L : List SA) (Q : Exit → Act → World → Prop) : Prop := ∀ ds a w, Env N F a → a.defers = ds.map mkD → St (SA.hid κ.X ds :: L) w → Q e a w
def TL (κ : Ctx) (P : Program) (N : Nat) (ops : Array Oper) (rest : List Oper) (F : FE) (L : List SA) (Q : Exit → Act → World → Prop) : Prop := ∀ ds a w, Env N F a → a.defers = ds.map mkD → St (SA.hid κ.X ds :: L) w → wpListIn (fen κ.r) 0 P ops Q rest a w
theorem put_defers (a : Act) (d : Option Tmp) (v : Value) : (a.put d v).defers = a.defers := by cases d <;> rfl
/-- no way out by 'outgrown' -/
def Qn (Q : Exit → Act → World → Prop) : Exit → Act → World → Prop := fun e a w => e ≠ .outgrown ∧ Q e a w
theorem no_out {Q : Exit → Act → World → Prop} : ¬ LetsOut (Qn Q) := fun ⟨_, _, h, _⟩ => h rfl
theorem calls_in {P : Program} {f : FuncId} {args : Array Value} {w : World} {R : Ending → World → Prop} (r : Option Nat) (n : Nat) (h : Calls P f args w R) : CallsIn (fen r) n P f args w R := by
  cases r with
  | none => exact callsIn_wide.2 h
  | some l => exact CallsIn.inRound (F := Fence.wide) l (callsIn_wide.2 h)
theorem rows_in {P : Program} {row : String} {args : Array Value} {w : World} {R : Value → World → Prop} (r : Option Nat) (n : Nat) (h : Rows P row args w R) : RowsIn (fen r) n P row args w R :=
  fun c cs _ => let ⟨v, w', hR, hs⟩ := h c cs; ⟨v, w', hR, by
    cases r with
    | none => exact stepsIn_wide.2 hs
    | some l => exact (stepsIn_wide (P := P)).2 hs⟩
/-- a plain step, in whatever round -/
theorem oper_in {P : Program} {o : Oper} {a : Act} {w : World} {K : Act → World → Prop} {Q : Exit → Act → World → Prop} (r : Option Nat) (hd : ∀ c, o.op ≠ .defer c) (h : o.wp P a w K Q) : o.wpIn (fen r) 0 P a w K Q := by
  refine ⟨fun _ _ => trivial, ?_⟩
  unfold Oper.wp at h
  rw [show o.semAt (fen r).round a.eval = execOp a.eval o from Oper.semAt_plain (fen r) a.eval o hd]
  generalize (execOp a.eval o).run P w = q at h ⊢
  cases q with
  | ok n w' =>
    cases n with
    | value v => exact h
    | skip => exact h
    | defer d => exact h
    | enter f args => exact ⟨fun h => by simp [fen, Fence.wide] at h, calls_in r _ h⟩
    | row row args => exact ⟨fun h => by simp [fen, Fence.wide] at h, rows_in r _ h⟩
    | round l f tmps assign body => exact h.elim
    | _ => exact h
  | halt x w' => cases x <;> exact h
/-- what is held till the operation 'last' has come up -/
def Sx (last : Nat) (As : List SA) (listed : Array Bool) (w : World) : Prop := listed.getD last false = false → Holds As w
def wpAnyX (P : Program) (ops : Array Oper) (Q : Exit → Act → World → Prop) (last : Nat) (As : List SA) : Nat → Array Bool → Act → World → Prop
  | 0, listed, a, w => Region.ready .any ops listed = [] ∧ Q .normal a w
  | fuel + 1, listed, a, w => (Region.ready .any ops listed = [] → Q .normal a w) ∧
    ∀ i ∈ Region.ready .any ops listed, wpOp P ops Q i (fun a' w' => Sx last As (listed.setIfInBounds i true) w' ∧ wpAnyX P ops Q last As fuel (listed.setIfInBounds i true) a' w') a w
/-- no operation is a 'defer' -/
def noDefer (l : List Oper) : Bool := l.all fun o => match o.op with
  | .defer _ => false
  | _ => true
theorem noDefer_spec {l : List Oper} (h : noDefer l = true) {o : Oper} (ho : o ∈ l) : ∀ c, o.op ≠ .defer c := fun c hc => by
  have := List.all_eq_true.1 h o ho
  rw [hc] at this; cases this
theorem wpOp_in {P : Program} {ops : Array Oper} {Q : Exit → Act → World → Prop} {i : Nat} {K : Act → World → Prop} {a : Act} {w : World} (r : Option Nat) (hd : noDefer ops.toList = true) (h : wpOp P ops (Qn Q) i K a w) : wpOpIn (fen r) 0 P ops Q i K a w := by
  unfold wpOp at h
  unfold wpOpIn
  cases hi : ops[i]? with
  | none => rw [hi] at h; exact h
  | some o =>
    rw [hi] at h
    have hm : o ∈ ops.toList := by obtain ⟨hlt, he⟩ := Array.getElem?_eq_some_iff.1 hi; rw [← he]; simp
    simp only at h ⊢
    split
    · rename_i hw
      rw [if_pos hw] at h
      rcases h with h | h
      · have := oper_in r (noDefer_spec hd hm) h
        refine ⟨this.1, ?_⟩
        have h2 := this.2
        revert h2
        generalize (o.semAt (fen r).round a.eval).run P w = q
        intro h2
        cases q with
        | ok n w' =>
          cases n with
          | enter f args => exact ⟨h2.1, CallsIn.mono h2.2 fun e w'' he => by cases e <;> first | exact he | exact he.2 | exact absurd he no_out⟩
          | round l f tmps assign body => exact ⟨h2.1, RoundIn.mono h2.2 fun e w'' he => by cases e <;> first | exact he | exact he.2 | exact absurd he no_out⟩
          | _ => exact h2
        | halt x w' => cases x <;> first | exact h2.2 | exact h2
      · exact absurd h.2 no_out
    · rename_i hw
      rw [if_neg hw] at h
      exact ⟨fun _ _ => trivial, h⟩
theorem wpAny_in {P : Program} {ops : Array Oper} {Q : Exit → Act → World → Prop} (r : Option Nat) (hd : noDefer ops.toList = true) : ∀ (fuel : Nat) (listed : Array Bool) (a : Act) (w : World), wpAny P .any ops (Qn Q) fuel listed a w → wpAnyIn (fen r) 0 P .any ops Q fuel listed a w
  | 0, _, _, _, h => ⟨h.1, h.2.2⟩
  | fuel + 1, _, _, _, h => ⟨fun h0 => (h.1 h0).2, fun i hi => wpOpIn_mono (fun a' w' h' => wpAny_in r hd fuel _ a' w' h') (wpOp_in r hd (h.2 i hi))⟩
theorem wpAny_of_X {P : Program} {ops : Array Oper} {Q : Exit → Act → World → Prop} {last : Nat} {As : List SA} : ∀ (fuel : Nat) (listed : Array Bool) (a : Act) (w : World), wpAnyX P ops Q last As fuel listed a w → wpAny P .any ops Q fuel listed a w
  | 0, _, _, _, h => h
  | fuel + 1, _, _, _, h => ⟨h.1, fun i hi => wpOp_mono (fun a' w' h' => wpAny_of_X fuel _ a' w' h'.2) (h.2 i hi)⟩
/-- 'last' waits for i -/
def waits (ops : Array Oper) (last i : Nat) : Bool := match ops[last]? with
  | some o => o.after.any fun e => Region.binds .any e && e.on == i
  | none => true
theorem wpAnyX_first {P : Program} {ops : Array Oper} {Q : Exit → Act → World → Prop} {last : Nat} {As : List SA} {S : World → Prop} {i : Nat} {oi : Oper} {v : Value} (hi : ops[i]? = some oi) (hsel : ∀ (j : Nat) (o : Oper) cs b, ops[j]? = some o → o.op ≠ .select cs b)
    (hQ : ∀ c a w, Q (.panic c) (a.put oi.dst v) w → Q (.panic c) a w) (hil : i ≠ last) (hS : (∀ w, S w) ∨ ((∀ w, Holds As w → S w) ∧ waits ops last i = true)) :
    ∀ (fuel : Nat) (listed : Array Bool) (a : Act) (w : World),
      (∀ j oj, ops[j]? = some oj → j ≠ i → listed.getD j true = false → (∀ e ∈ oj.after, Region.binds .any e = true → e.on ≠ i) → oi.apart ops oj = true) →
      i ∈ Region.ready .any ops listed → YieldsIf P ops S oi v a → Sx last As listed w → ((∀ w, S w) ∨ listed.getD last false = false) →
      wpAnyX P ops Q last As fuel (listed.setIfInBounds i true) (a.put oi.dst v) w → wpAnyX P ops Q last As (fuel + 1) listed a w := by
  have hsw : ∀ (listed : Array Bool) (w : World), Sx last As listed w → ((∀ w, S w) ∨ listed.getD last false = false) → S w := fun listed w h1 h2 => by
    rcases h2 with h2 | h2
    · exact h2 w
    · rcases hS with h | h
      · exact h w
      · exact h.1 w (h1 h2)
  have hsx : ∀ (listed : Array Bool) (w : World), Sx last As listed w → Sx last As (listed.setIfInBounds i true) w := fun listed w h1 h2 => by
    refine h1 ?_
    cases hq : listed.getD last false with
    | false => rfl
    | true => rw [getD_set_true hq] at h2; cases h2
  intro fuel
  induction fuel with
  | zero =>
    intro listed a w _ hr hy hX hl H
    refine ⟨fun h => (by rw [h] at hr; cases hr), fun j hj => ?_⟩
    by_cases hji : j = i
    · subst hji; exact hy.wpOp hi (hsw _ _ hX hl) ⟨hsx _ _ hX, H⟩
    · have := ready_mono hj hji
      rw [H.1] at this
      cases this
  | succ fuel ih =>
    intro listed a w hfree hr hy hX hl H
    refine ⟨fun h => (by rw [h] at hr; cases hr), fun j hj => ?_⟩
    by_cases hji : j = i
    · subst hji; exact hy.wpOp hi (hsw _ _ hX hl) ⟨hsx _ _ hX, H⟩
    · have h1 := H.2 j (ready_mono hj hji)
      obtain ⟨hjun, oj, hoj, hall⟩ := mem_ready.1 hj
      have hnot : ∀ e ∈ oj.after, Region.binds .any e = true → e.on ≠ i := fun e he hb heq => by
        have h1 := hall e he hb
        have h0 := (mem_ready.1 hr).1
        rw [heq] at h1
        rcases Nat.lt_or_ge i listed.size with h' | h'
        · simp [h'] at h0 h1; rw [h0] at h1; cases h1
        · simp [Array.getElem?_eq_none h'] at h1
      have h2 := wpOp_putIf hoj (hfree j oj hoj hji hjun hnot) (fun cs b => hsel i oi cs b hi) (fun cs b => hsel j oj cs b hoj) hQ hy h1
      have hfree' : ∀ k ok, ops[k]? = some ok → k ≠ i → (listed.setIfInBounds j true).getD k true = false →
          (∀ e ∈ ok.after, Region.binds .any e = true → e.on ≠ i) → oi.apart ops ok = true := fun k ok hk hki hun hno => by
        refine hfree k ok hk hki ?_ hno
        by_cases hjk : j = k
        · subst hjk; exact hjun
        · rw [getD_set_ne true hjk] at hun; exact hun
      have hl' : (∀ w, S w) ∨ (listed.setIfInBounds j true).getD last false = false := by
        rcases hl with hl | hl
        · exact .inl hl
        · rcases hS with h | h
          · exact .inl h
          · right
            by_cases hjl : j = last
            · exfalso
              subst hjl
              have hw := h.2
              unfold waits at hw
              rw [hoj] at hw
              obtain ⟨e, he, hb⟩ := Array.any_eq_true'.1 hw
              simp only [Bool.and_eq_true, beq_iff_eq] at hb
              exact hnot e he hb.1 hb.2
            · rw [getD_set_ne false hjl]; exact hl
      have hX' : ∀ w', Sx last As ((listed.setIfInBounds i true).setIfInBounds j true) w' → Sx last As (listed.setIfInBounds j true) w' := fun w' h1 h2 => by
        refine h1 ?_
        rw [Array.setIfInBounds_comm _ _ (Ne.symm hji)]
        rw [getD_set_ne false hil]; exact h2
      refine wpOp_mono (fun a' w' h3 => ⟨hX' _ h3.2.1, ih (listed.setIfInBounds j true) a' w' hfree' (ready_mono hr (Ne.symm hji)) h3.1 (hX' _ h3.2.1) hl' ?_⟩) h2
      rw [Array.setIfInBounds_comm _ _ hji]
      exact h3.2.2
/-- in any order; As hold till 'last' has come up -/
def TA (κ : Ctx) (P : Program) (N : Nat) (ops : Array Oper) (last : Nat) (As : List SA) (fuel : Nat) (listed : Array Bool) (F : FE) (L : List SA) (Q : Exit → Act → World → Prop) : Prop :=
  ∀ ds a w, Env N F a → a.defers = ds.map mkD → St (SA.hid κ.X ds :: L) w → Sx last As listed w → wpAnyX P ops (Qn Q) last As fuel listed a w
/-- an operation yields -/
def Yld (P : Program) (N : Nat) (o : Oper) (F : FE) (As : List SA) (v : Value) : Prop := ∀ a w, Env N F a → Holds As w → (execOp a.eval o).run P w = .ok (.value v) w
/-- an operation acts -/
def Eff (P : Program) (N : Nat) (o : Oper) (F : FE) (L : List SA) (R : Value → List SA → Prop) : Prop :=
  (∀ c, o.op ≠ .defer c) ∧ ∀ Y a w, Env N F a → St (Y :: L) w → ∀ (K : Act → World → Prop) Q, (∀ v L' w', R v L' → St (Y :: L') w' → K (a.put o.dst v) w') → o.wp P a w K Q
/-- an operation acts, in a round or not, by a call of yield -/
def EffI (P : Program) (N : Nat) (o : Oper) (F : FE) (L : List SA) (R : Value → List SA → Prop) : Prop :=
  ∀ r Y a w, Env N F a → St (Y :: L) w → ∀ (K : Act → World → Prop) Q, (∀ v L' w', R v L' → St (Y :: L') w' → K (a.put o.dst v) w') → o.wpIn (fen r) 0 P a w K Q
theorem Eff.inI {P : Program} {N : Nat} {o : Oper} {F : FE} {L : List SA} {R : Value → List SA → Prop} (h : Eff P N o F L R) : EffI P N o F L R := fun r Y a w ha hw K Q hK => oper_in r h.1 (h.2 Y a w ha hw K Q hK)
theorem run_defer_no {P : Program} {ρ : Operand → Value} {o : Oper} {w : World} {v : Value} (h : (execOp ρ o).run P w = .ok (.value v) w) : ∀ c, o.op ≠ .defer c := by
  intro c hc
  unfold execOp at h
  rw [hc] at h
  simp only [Sem.run_bind] at h
  cases hq : (resolve ρ c o.type).run P w with
  | ok d w' => rw [hq] at h; simp [Result.andThen, go_sem] at h
  | halt x w' => rw [hq] at h; simp [Result.andThen] at h
/-- a function's contract; what isn't named stays (X) -/
def Ret (X : SA) (R : Value → List SA → Prop) (e : Ending) (w : World) : Prop := ∃ v L, e = .returned v ∧ R v L ∧ St (X :: L) w
def Fn (P : Program) (f : FuncId) (args : List Value) (L : List SA) (R : Value → List SA → Prop) : Prop := ∀ X w, St (X :: L) w → Calls P f args.toArray w (Ret X R)
/-- how a function's body is left -/
def Qf (P : Program) (fn : Func) (X : SA) (R : Value → List SA → Prop) : Exit → Act → World → Prop
  | .normal, a, w | .ret, a, w => LeavesInM (fen none) 0 P fn a.tmps (Ret X R) a.defers .returning w
  | _, _, _ => False

section
variable {κ : Ctx} {P : Program} {N : Nat} {F F' : FE} {L L' L0 As : List SA} {Q : Exit → Act → World → Prop} {x y c : Code}

theorem Ent.hid {Y : SA} {w : World} (h : Ent L L') (k : St (Y :: L) w) : St (Y :: L') w := (h.under Y).st k
theorem TC.sub (h : TC κ P N c F' L' Q) (hF : Sub F F') (hL : Ent L L') : TC κ P N c F L Q := fun ds a w ha hd hw => h ds a w (ha.sub hF) hd (hL.hid hw)
theorem TQ.sub {e : Exit} (h : TQ κ N e F' L' Q) (hF : Sub F F') (hL : Ent L L') : TQ κ N e F L Q := fun ds a w ha hd hw => h ds a w (ha.sub hF) hd (hL.hid hw)
theorem TC.seq (h : TC κ P N x F L (Exit.then (fun a w => y.wpIn (fen κ.r) 0 P Q a w) Q)) : TC κ P N (.seq x y) F L Q := fun ds a w ha hd hw => wpIn_seq (h ds a w ha hd hw)
theorem TQ.next (h : TC κ P N y F L Q) {Q' : Exit → Act → World → Prop} : TQ κ N .normal F L (Exit.then (fun a w => y.wpIn (fen κ.r) 0 P Q a w) Q') := h
theorem TQ.then_exit {K : Act → World → Prop} {id : Nat} (h : TQ κ N (.exit id) F L Q) : TQ κ N (.exit id) F L (Exit.then K Q) := h
theorem TQ.then_ret {K : Act → World → Prop} (h : TQ κ N .ret F L Q) : TQ κ N .ret F L (Exit.then K Q) := h
theorem TQ.block_normal {id : Nat} (h : TQ κ N .normal F L Q) : TQ κ N .normal F L (Exit.inBlock id Q) := h
theorem TQ.block_ret {id : Nat} (h : TQ κ N .ret F L Q) : TQ κ N .ret F L (Exit.inBlock id Q) := h
theorem TQ.block_exit {id : Nat} (h : TQ κ N .normal F L Q) : TQ κ N (.exit id) F L (Exit.inBlock id Q) := fun ds a w ha hd hw => by
  show if id = id then _ else _
  rw [if_pos rfl]; exact h ds a w ha hd hw
theorem TQ.block_out {id id' : Nat} (hne : Nat.beq id' id = false) (h : TQ κ N (.exit id') F L Q) : TQ κ N (.exit id') F L (Exit.inBlock id Q) := fun ds a w ha hd hw => by
  show if id' = id then _ else _
  rw [if_neg (Nat.ne_of_beq_eq_false hne)]; exact h ds a w ha hd hw
theorem TC.block {id : Nat} (h : TC κ P N c F L (Exit.inBlock id Q)) : TC κ P N (.block id c) F L Q := fun ds a w ha hd hw => wpIn_block (h ds a w ha hd hw)
theorem TC.skip (h : TQ κ N .normal F L Q) : TC κ P N .skip F L Q := fun ds a w ha hd hw => wpIn_skip (h ds a w ha hd hw)
theorem TC.exit {id : Nat} (h : TQ κ N (.exit id) F L Q) : TC κ P N (.exit id) F L Q := fun ds a w ha hd hw => wpIn_exit (h ds a w ha hd hw)
theorem TC.ret (h : TQ κ N .ret F L Q) : TC κ P N .ret F L Q := fun ds a w ha hd hw => wpIn_ret (h ds a w ha hd hw)
theorem TC.cond {cc : Operand} {t : Bool} (hc : evO F cc = some (.bool t)) (h1 : t = true → TC κ P N x F L Q) (h2 : t = false → TC κ P N y F L Q) : TC κ P N (.cond cc x y) F L Q := fun ds a w ha hd hw =>
  wpIn_cond_split (ha.eval hc) (fun e => h1 e ds a w ha hd hw) (fun e => h2 e ds a w ha hd hw)
theorem TC.cond_t {cc : Operand} (hc : evO F cc = some (.bool true)) (h1 : TC κ P N x F L Q) : TC κ P N (.cond cc x y) F L Q := TC.cond hc (fun _ => h1) (fun e => by cases e)
theorem TC.cond_f {cc : Operand} (hc : evO F cc = some (.bool false)) (h1 : TC κ P N y F L Q) : TC κ P N (.cond cc x y) F L Q := TC.cond hc (fun e => by cases e) (fun _ => h1)
theorem TC.region {id : Nat} {l : List Oper} (h : TL κ P N l.toArray l F L Q) : TC κ P N (.region id l.toArray false) F L Q := fun ds a w ha hd hw => wpIn_region_lit (h ds a w ha hd hw)
theorem TC.draws (last : Nat) (As : List SA) {id : Nat} {l : List Oper} (hm : P.follows .mixedOrders = true) (hnd : noDefer l = true) (hS : ∀ w, Holds L w → Holds As w) (h : TA κ P N l.toArray last As l.length (Array.replicate l.length false) F L Q) : TC κ P N (.region id l.toArray true) F L Q := fun ds a w ha hd hw =>
  wpIn_region_any hm (wpAny_in κ.r (by simpa using hnd) _ _ _ _ (wpAny_of_X _ _ _ _ (by
    have hw' := hw.drew
    have := h ds a w.drew ha hd hw' (fun _ => hS _ hw'.tl.holds)
    simpa using this)))

/-- the round of a loop ends here -/
def Lp {ι : Type} (κ : Ctx) (N : Nat) (I : ι → Prop) (Fi : ι → FE) (Li : ι → List SA) (μ : ι → Nat) (m : Nat) (a : Act) (w : World) : Prop := ∃ j ds, I j ∧ μ j < m ∧ Env N (Fi j) a ∧ a.defers = ds.map mkD ∧ St (SA.hid κ.X ds :: Li j) w
/-- ways meet here -/
def Md {ι : Type} (κ : Ctx) (N : Nat) (I : ι → Prop) (Fi : ι → FE) (Li : ι → List SA) (a : Act) (w : World) : Prop := ∃ j ds, I j ∧ Env N (Fi j) a ∧ a.defers = ds.map mkD ∧ St (SA.hid κ.X ds :: Li j) w

/-! ### loops and meetings: what is not named stays -/
def hasKey (F : FE) (t : Nat) : Bool := F.any fun p => Nat.beq p.1 t
theorem hasKey_cons (p : Nat × Option Value) (r : FE) (t : Nat) : hasKey (p :: r) t = (Nat.beq p.1 t || hasKey r t) := rfl
theorem fget_app_t {F G : FE} {t : Nat} (h : hasKey F t = true) : fget (F ++ G) t = fget F t := by
  induction F with
  | nil => cases h
  | cons x r ih =>
    rw [hasKey_cons] at h
    simp only [List.cons_append, fget]
    cases hb : Nat.beq x.1 t with
    | true => rfl
    | false => rw [hb] at h; exact ih (by simpa using h)
theorem fget_app_f {F G : FE} {t : Nat} (h : hasKey F t = false) : fget (F ++ G) t = fget G t := by
  induction F with
  | nil => rfl
  | cons x r ih =>
    rw [hasKey_cons, Bool.or_eq_false_iff] at h
    simp only [List.cons_append, fget, h.1]
    exact ih h.2
theorem fget_key {F : FE} {t : Nat} {v : Value} (h : fget F t = some v) : hasKey F t = true := by
  induction F with
  | nil => cases h
  | cons x r ih =>
    rw [hasKey_cons]
    simp only [fget] at h
    cases hb : Nat.beq x.1 t with
    | true => rfl
    | false => rw [hb] at h; simpa using ih h
/-- F is G with entries ks put ahead -/
inductive Grow (G : FE) : List Nat → FE → Prop
  | refl : Grow G [] G
  | step {t : Nat} {v : Option Value} {ks : List Nat} {F : FE} : Grow G ks F → Grow G (t :: ks) ((t, v) :: F)
  | app {C : FE} {ks : List Nat} {F : FE} : Grow G ks F → Grow G (C.map (·.1) ++ ks) (C ++ F)
theorem Grow.get {G F : FE} {ks : List Nat} (h : Grow G ks F) : ∀ t, ks.any (Nat.beq · t) = false → fget F t = fget G t := by
  induction h with
  | refl => intro t _; rfl
  | @step t0 v ks F _ ih =>
    intro t ht
    simp only [List.any_cons, Bool.or_eq_false_iff] at ht
    simp only [fget, ht.1, cond_false]
    exact ih t ht.2
  | @app C ks F _ ih =>
    intro t ht
    simp only [List.any_append, Bool.or_eq_false_iff] at ht
    rw [fget_app_f, ih t ht.2]
    have h1 := ht.1
    rw [List.any_map] at h1
    exact h1
/-- the changed slots C, the unknown ones U, the rest as before -/
def keysOk (ks : List Nat) (C : FE) (U : List Nat) (F : FE) : Bool := ks.all fun t => hasKey C t || U.any (Nat.beq · t) || !hasKey F t
def unk (U : List Nat) : FE := U.map fun t => (t, none)
theorem fget_unk (U : List Nat) (t : Nat) : fget (unk U) t = none := by
  induction U with
  | nil => rfl
  | cons x r ih => simp only [unk, List.map_cons, fget] at ih ⊢; rw [ih]; cases Nat.beq x t <;> rfl
theorem hasKey_unk (U : List Nat) (t : Nat) : hasKey (unk U) t = U.any (Nat.beq · t) := by
  simp [hasKey, unk, List.any_map, Function.comp_def]
theorem Says.mk0 {F C : FE} {U : List Nat} (h : Sub F C) : Says F (C ++ (unk U ++ F)) := by
  intro t v hv
  cases h1 : hasKey C t with
  | true => rw [fget_app_t h1] at hv; exact h.get t v hv
  | false =>
    rw [fget_app_f h1] at hv
    cases h2 : hasKey (unk U) t with
    | true => rw [fget_app_t h2, fget_unk] at hv; cases hv
    | false => rw [fget_app_f h2] at hv; exact hv
theorem any_no {ks : List Nat} {t : Nat} {C' : FE} {U : List Nat} {F : FE} (hk : keysOk ks C' U F = true) (h1 : hasKey C' t = false) (h2 : hasKey (unk U) t = false) (hF : hasKey F t = true) : ks.any (Nat.beq · t) = false := by
  cases hq : ks.any (Nat.beq · t) with
  | false => rfl
  | true =>
    obtain ⟨x, hx, hxt⟩ := List.any_eq_true.1 hq
    have hxt' : x = t := Nat.eq_of_beq_eq_true hxt
    have := List.all_eq_true.1 hk x hx
    rw [hasKey_unk] at h2
    rw [hxt', h1, h2, hF] at this
    cases this
theorem Says.mk {F F2 C C' : FE} {U ks : List Nat} (h : Sub F2 C') (hg : Grow (C ++ (unk U ++ F)) ks F2) (hk : keysOk ks C' U F = true) (hc : C.all (fun p => hasKey C' p.1) = true) : Says F2 (C' ++ (unk U ++ F)) := by
  intro t v hv
  cases h1 : hasKey C' t with
  | true => rw [fget_app_t h1] at hv; exact h.get t v hv
  | false =>
    rw [fget_app_f h1] at hv
    cases h2 : hasKey (unk U) t with
    | true => rw [fget_app_t h2, fget_unk] at hv; cases hv
    | false =>
      rw [fget_app_f h2] at hv
      have h3 : hasKey C t = false := by
        cases hq : hasKey C t with
        | false => rfl
        | true =>
          obtain ⟨p, hp, hpt⟩ := List.any_eq_true.1 hq
          have hpt' : p.1 = t := Nat.eq_of_beq_eq_true hpt
          have := List.all_eq_true.1 hc p hp
          simp only [hpt', h1] at this
          cases this
      rw [hg.get t (any_no hk h1 h2 (fget_key hv)), fget_app_f h3, fget_app_f h2]
      exact hv
/-- a meeting of ways: nothing of C yet -/
theorem Says.meet {F F2 C' : FE} {U ks : List Nat} (h : Sub F2 C') (hg : Grow F ks F2) (hk : keysOk ks C' U F = true) : Says F2 (C' ++ (unk U ++ F)) := by
  intro t v hv
  cases h1 : hasKey C' t with
  | true => rw [fget_app_t h1] at hv; exact h.get t v hv
  | false =>
    rw [fget_app_f h1] at hv
    cases h2 : hasKey (unk U) t with
    | true => rw [fget_app_t h2, fget_unk] at hv; cases hv
    | false =>
      rw [fget_app_f h2] at hv
      rw [hg.get t (any_no hk h1 h2 (fget_key hv))]; exact hv
/-- atoms taken out, one by one -/
inductive Pulls : List SA → List SA → List SA → Prop
  | nil {L : List SA} : Pulls [] L L
  | cons {A : SA} {As L L1 L2 : List SA} : Pull A L L1 → Pulls As L1 L2 → Pulls (A :: As) L L2
theorem Pulls.ent {As L L2 : List SA} (h : Pulls As L L2) : Ent L (As ++ L2) := by
  induction h with
  | nil => exact Ent.refl
  | cons h1 _ ih => exact Ent.cons h1 ih
theorem TC.loopF {ι : Type} (U : List Nat) (I : ι → Prop) (C : ι → FE) (A : ι → List SA) (μ : ι → Nat) (i0 : ι) (h0 : I i0) (hF : Sub F (C i0)) {L0 : List SA} (hL : Pulls (A i0) L L0)
    (round : ∀ i, I i → ∀ F' L', F' = C i ++ (unk U ++ F) → L' = A i ++ L0 → TC κ P N c F' L' (Exit.then (Lp κ N I (fun i => C i ++ (unk U ++ F)) (fun i => A i ++ L0) μ (μ i)) Q)) : TC κ P N (.loop c) F L Q := by
  intro ds a w ha hd hw
  refine wpIn_loop_ghost (fun n a w => ∃ i ds, μ i = n ∧ I i ∧ Env N (C i ++ (unk U ++ F)) a ∧ a.defers = ds.map mkD ∧ St (SA.hid κ.X ds :: (A i ++ L0)) w) (μ i0) ⟨i0, ds, rfl, h0, ha.says (Says.mk0 hF), hd, hL.ent.hid hw⟩ ?_
  rintro n a w ⟨i, ds, rfl, hi, ha, hd, hw⟩
  refine wpIn_mono (round i hi _ _ rfl rfl ds a w ha hd hw) ?_
  intro e a' w' hq
  cases e with
  | normal =>
    obtain ⟨j, ds, hj, hm, ha', hd', hw'⟩ := hq
    exact ⟨μ j, hm, j, ds, rfl, hj, ha', hd', hw'⟩
  | exit id => exact hq
  | goto l => exact hq
  | ret => exact hq
  | panic ch => exact hq
  | outgrown => exact hq
theorem TQ.loopF {ι : Type} {U : List Nat} {I : ι → Prop} {C : ι → FE} {A : ι → List SA} {μ : ι → Nat} {m : Nat} {F2 : FE} {L2 L0 : List SA} {C0 : FE} {ks : List Nat} (j : ι) (hj : I j) (hm : μ j < m) (hF : Sub F2 (C j))
    (hg : Grow (C0 ++ (unk U ++ F)) ks F2) (hk : keysOk ks (C j) U F = true) (hc : C0.all (fun p => hasKey (C j) p.1) = true) (hL : Ent L2 (A j ++ L0)) :
    TQ κ N .normal F2 L2 (Exit.then (Lp κ N I (fun i => C i ++ (unk U ++ F)) (fun i => A i ++ L0) μ m) Q) := fun ds _ _ ha hd hw => ⟨j, ds, hj, hm, ha.says (Says.mk hF hg hk hc), hd, hL.hid hw⟩
theorem TC.cutF {ι : Type} (U : List Nat) (I : ι → Prop) (C : ι → FE) (A : ι → List SA) {Ao L0 : List SA} (hL : Pulls Ao L L0) (hx : ∀ L', L' = Ao ++ L0 → TC κ P N x F L' (Exit.then (Md κ N I (fun i => C i ++ (unk U ++ F)) (fun i => A i ++ L0)) Q))
    (hy : ∀ j, I j → ∀ F' L', F' = C j ++ (unk U ++ F) → L' = A j ++ L0 → TC κ P N y F' L' Q) : TC κ P N (.seq x y) F L Q := fun ds a w ha hd hw => by
  refine wpIn_seq (wpIn_mono (hx _ rfl ds a w ha hd (hL.ent.hid hw)) ?_)
  intro e a' w' hq
  cases e with
  | normal => obtain ⟨j, ds, hj, ha', hd', hw'⟩ := hq; exact hy j hj _ _ rfl rfl ds a' w' ha' hd' hw'
  | exit id => exact hq
  | goto l => exact hq
  | ret => exact hq
  | panic ch => exact hq
  | outgrown => exact hq
theorem TQ.meetF {ι : Type} {U : List Nat} {I : ι → Prop} {C : ι → FE} {A : ι → List SA} {F2 : FE} {L2 L0 : List SA} {ks : List Nat} (j : ι) (hj : I j) (hF : Sub F2 (C j))
    (hg : Grow F ks F2) (hk : keysOk ks (C j) U F = true) (hL : Ent L2 (A j ++ L0)) :
    TQ κ N .normal F2 L2 (Exit.then (Md κ N I (fun i => C i ++ (unk U ++ F)) (fun i => A i ++ L0)) Q) := fun ds _ _ ha hd hw => ⟨j, ds, hj, ha.says (Says.meet hF hg hk), hd, hL.hid hw⟩

/-! ### operations in the text's order -/
section
variable {ops : Array Oper} {o : Oper} {rest : List Oper} {As' : List SA}
theorem TL.nil (h : TQ κ N .normal F L Q) : TL κ P N ops [] F L Q := h
theorem sem_in {ρ : Operand → Value} {w : World} {v : Value} (r : Option Nat) (h : (execOp ρ o).run P w = .ok (.value v) w) : (o.semAt (fen r).round ρ).run P w = .ok (.value v) w := by
  rw [Oper.semAt_plain (fen r) ρ o (run_defer_no h)]; exact h
theorem val_in {a : Act} {w : World} {v : Value} {K : Act → World → Prop} (r : Option Nat) (h : (execOp a.eval o).run P w = .ok (.value v) w) (hk : K (a.put o.dst v) w) : o.wpIn (fen r) 0 P a w K Q := by
  refine ⟨fun _ _ => trivial, ?_⟩
  rw [sem_in r h]
  exact hk
theorem TL.val {d : Nat} {v : Value} (hg : o.guard = none) (hd : o.dst = some d) (hN : Nat.blt d N = true) (h : Yld P N o F L v) (k : TL κ P N ops rest ((d, some v) :: F) L Q) : TL κ P N ops (o :: rest) F L Q := by
  intro ds a w ha hds hw
  refine wpListIn_plain hg fun K hK => ?_
  refine val_in κ.r (h a w ha hw.tl.holds) ?_
  have := hK _ _ (k ds _ w (ha.put hN v) ((put_defers _ _ _).trans hds) hw)
  rwa [hd]
theorem TL.effI {R : Value → List SA → Prop} (hg : o.guard = none) {d : Nat} (hd : o.dst = some d) (hN : Nat.blt d N = true) (h : EffI P N o F L R) (k : ∀ v L', R v L' → TL κ P N ops rest ((d, some v) :: F) L' Q) : TL κ P N ops (o :: rest) F L Q := by
  intro ds a w ha hds hw
  refine wpListIn_plain hg fun K hK => ?_
  refine h κ.r _ a w ha hw K Q fun v L' w' hR hw' => hK _ _ (k v L' hR ds _ w' ?_ ((put_defers _ _ _).trans hds) hw')
  rw [hd]; exact ha.put hN v
theorem TL.eff {R : Value → List SA → Prop} (hg : o.guard = none) {d : Nat} (hd : o.dst = some d) (hN : Nat.blt d N = true) (h : Eff P N o F L R) (k : ∀ v L', R v L' → TL κ P N ops rest ((d, some v) :: F) L' Q) : TL κ P N ops (o :: rest) F L Q :=
  TL.effI hg hd hN h.inI k
theorem TL.eff0 {R : Value → List SA → Prop} (hg : o.guard = none) (hd : o.dst = none) (h : Eff P N o F L R) (k : ∀ v L', R v L' → TL κ P N ops rest F L' Q) : TL κ P N ops (o :: rest) F L Q := by
  intro ds a w ha hds hw
  refine wpListIn_plain hg fun K hK => ?_
  refine h.inI κ.r _ a w ha hw K Q fun v L' w' hR hw' => hK _ _ (k v L' hR ds _ w' ?_ ((put_defers _ _ _).trans hds) hw')
  rw [hd]; exact ha
/-- is a guarded operation wanted? -/
def wantF (ops : Array Oper) (F : FE) (o : Oper) : Option Bool :=
  match o.guard with
  | none => some true
  | some (j, want) => match (ops[j]?).bind (·.dst) with
    | some t => match fget F t with
      | some (.bool b) => some (b == want)
      | some (.tuple _) => some false
      | _ => none
    | none => none
theorem Env.wanted {a : Act} (ha : Env N F a) {b : Bool} (h : wantF ops F o = some b) : Region.wanted o (yielded ops a.tmps) = b := by
  unfold wantF at h
  unfold Region.wanted
  split at h
  · rename_i hg; simp at h; subst h; simp [hg]
  · rename_i j want hg
    simp only [hg]
    split at h
    · rename_i t ht
      split at h
      · rename_i c hc
        have := ha.get t _ hc
        simp at h; subst h
        have hsome : a.tmps[t]? = some (.bool c) := by
          rw [Array.getD_eq_getD_getElem?] at this
          cases hq : a.tmps[t]? with
          | none => rw [hq] at this; simp [undef] at this
          | some u => rw [hq] at this; simp at this; rw [this]
        have : yielded ops a.tmps j = some c := by
          unfold yielded
          simp [ht, hsome]
        rw [this]
        cases c <;> cases want <;> rfl
      · rename_i c hc
        have := ha.get t _ hc
        simp at h; subst h
        have : yielded ops a.tmps j = none := by
          unfold yielded
          simp only [ht, Option.bind_some]
          cases hq : a.tmps[t]? with
          | none => rfl
          | some u =>
            rw [Array.getD_eq_getD_getElem?, hq] at this
            simp at this; rw [this]
        rw [this]
        cases want <;> rfl
      · cases h
    · cases h
theorem TL.valG {d : Nat} {v : Value} (hg : wantF ops F o = some true) (hd : o.dst = some d) (hN : Nat.blt d N = true) (h : Yld P N o F L v) (k : TL κ P N ops rest ((d, some v) :: F) L Q) : TL κ P N ops (o :: rest) F L Q := by
  intro ds a w ha hds hw
  refine wpListIn_step fun K hK => ?_
  rw [if_pos (ha.wanted hg)]
  refine val_in κ.r (h a w ha hw.tl.holds) ?_
  have := hK _ _ (k ds _ w (ha.put hN v) ((put_defers _ _ _).trans hds) hw)
  rwa [hd]
theorem TL.not {d : Nat} (hg : wantF ops F o = some false) (hd : o.dst = some d) (hN : Nat.blt d N = true) (k : TL κ P N ops rest ((d, some undef) :: F) L Q) : TL κ P N ops (o :: rest) F L Q := by
  intro ds a w ha hds hw
  refine wpListIn_step fun K hK => ?_
  rw [if_neg (by rw [ha.wanted hg]; simp)]
  refine ⟨fun _ _ => trivial, ?_⟩
  have := hK _ _ (k ds _ w (ha.put hN undef) ((put_defers _ _ _).trans hds) hw)
  rwa [hd]
theorem TL.effGI {R : Value → List SA → Prop} (hg : wantF ops F o = some true) {d : Nat} (hd : o.dst = some d) (hN : Nat.blt d N = true) (h : EffI P N o F L R) (k : ∀ v L', R v L' → TL κ P N ops rest ((d, some v) :: F) L' Q) : TL κ P N ops (o :: rest) F L Q := by
  intro ds a w ha hds hw
  refine wpListIn_step fun K hK => ?_
  rw [if_pos (ha.wanted hg)]
  refine h κ.r _ a w ha hw K Q fun v L' w' hR hw' => hK _ _ (k v L' hR ds _ w' ?_ ((put_defers _ _ _).trans hds) hw')
  rw [hd]; exact ha.put hN v
theorem TL.effG {R : Value → List SA → Prop} (hg : wantF ops F o = some true) {d : Nat} (hd : o.dst = some d) (hN : Nat.blt d N = true) (h : Eff P N o F L R) (k : ∀ v L', R v L' → TL κ P N ops rest ((d, some v) :: F) L' Q) : TL κ P N ops (o :: rest) F L Q :=
  TL.effGI hg hd hN h.inI k
/-- a guarded action without a result -/
theorem TL.effG0 {R : Value → List SA → Prop} (hg : wantF ops F o = some true) (hd : o.dst = none) (h : Eff P N o F L R) (k : ∀ v L', R v L' → TL κ P N ops rest F L' Q) : TL κ P N ops (o :: rest) F L Q := by
  intro ds a w ha hds hw
  refine wpListIn_step fun K hK => ?_
  rw [if_pos (ha.wanted hg)]
  refine h.inI κ.r _ a w ha hw K Q fun v L' w' hR hw' => hK _ _ (k v L' hR ds _ w' ?_ ((put_defers _ _ _).trans hds) hw')
  rw [hd]; exact ha
theorem TL.not0 (hg : wantF ops F o = some false) (hd : o.dst = none) (k : TL κ P N ops rest F L Q) : TL κ P N ops (o :: rest) F L Q := by
  intro ds a w ha hds hw
  refine wpListIn_step fun K hK => ?_
  rw [if_neg (by rw [ha.wanted hg]; simp)]
  refine ⟨fun _ _ => trivial, ?_⟩
  have := hK _ _ (k ds _ w ha hds hw)
  rwa [hd]

/-! ### operations in any order -/
variable {fuel : Nat} {listed : Array Bool}
theorem TA.take (i : Nat) {last d : Nat} {v : Value} (hi : ops[i]? = some o) (hd : o.dst = some d) (hN : Nat.blt d N = true) (hg : wantF ops F o = some true)
    (hs : Region.noSelect ops = true) (hf : Region.free .any ops listed i = true) (hr : (Region.ready .any ops listed).contains i = true) (hl : Nat.beq i last = false) (hw : waits ops last i = true) (hll : listed.getD last false = false)
    (hQ : ∀ c a w, Q (.panic c) (a.put o.dst v) w → Q (.panic c) a w) (h : Yld P N o F As v)
    (k : TA κ P N ops last As fuel (listed.setIfInBounds i true) ((d, some v) :: F) L Q) : TA κ P N ops last As (fuel + 1) listed F L Q := by
  intro ds a w ha hds hw' hX
  refine wpAnyX_first (S := Holds As) hi (Region.noSelect_spec hs) (fun c a w h => ⟨h.1, hQ c a w h.2⟩) (Nat.ne_of_beq_eq_false hl) (.inr ⟨fun _ h => h, hw⟩) fuel listed a w (Region.free_spec hi hf) (by simpa using hr) (.inl ⟨ha.wanted hg, fun w hS => h a w ha hS⟩) hX (.inr hll) ?_
  rw [hd]
  refine k ds _ w (ha.put hN v) ((put_defers _ _ _).trans hds) hw' fun h2 => hX ?_
  rw [getD_set_ne false (Nat.ne_of_beq_eq_false hl)] at h2; exact h2
/-- what needs no memory -/
theorem TA.takeP (i : Nat) {last d : Nat} {v : Value} (hi : ops[i]? = some o) (hd : o.dst = some d) (hN : Nat.blt d N = true) (hg : wantF ops F o = some true)
    (hs : Region.noSelect ops = true) (hf : Region.free .any ops listed i = true) (hr : (Region.ready .any ops listed).contains i = true) (hl : Nat.beq i last = false)
    (hQ : ∀ c a w, Q (.panic c) (a.put o.dst v) w → Q (.panic c) a w) (h : Yld P N o F [] v)
    (k : TA κ P N ops last As fuel (listed.setIfInBounds i true) ((d, some v) :: F) L Q) : TA κ P N ops last As (fuel + 1) listed F L Q := by
  intro ds a w ha hds hw' hX
  refine wpAnyX_first (S := fun _ => True) hi (Region.noSelect_spec hs) (fun c a w h => ⟨h.1, hQ c a w h.2⟩) (Nat.ne_of_beq_eq_false hl) (.inl fun _ => trivial) fuel listed a w (Region.free_spec hi hf) (by simpa using hr) (.inl ⟨ha.wanted hg, fun w hS => h a w ha (fun A hA => by cases hA)⟩) hX (.inl fun _ => trivial) ?_
  rw [hd]
  refine k ds _ w (ha.put hN v) ((put_defers _ _ _).trans hds) hw' fun h2 => hX ?_
  rw [getD_set_ne false (Nat.ne_of_beq_eq_false hl)] at h2; exact h2
theorem TA.not (i : Nat) {last d : Nat} (hi : ops[i]? = some o) (hd : o.dst = some d) (hN : Nat.blt d N = true) (hg : wantF ops F o = some false)
    (hs : Region.noSelect ops = true) (hf : Region.free .any ops listed i = true) (hr : (Region.ready .any ops listed).contains i = true) (hl : Nat.beq i last = false)
    (hQ : ∀ c a w, Q (.panic c) (a.put o.dst undef) w → Q (.panic c) a w)
    (k : TA κ P N ops last As fuel (listed.setIfInBounds i true) ((d, some undef) :: F) L Q) : TA κ P N ops last As (fuel + 1) listed F L Q := by
  intro ds a w ha hds hw' hX
  refine wpAnyX_first (S := fun _ => True) hi (Region.noSelect_spec hs) (fun c a w h => ⟨h.1, hQ c a w h.2⟩) (Nat.ne_of_beq_eq_false hl) (.inl fun _ => trivial) fuel listed a w (Region.free_spec hi hf) (by simpa using hr) (.inr ⟨ha.wanted hg, rfl⟩) hX (.inl fun _ => trivial) ?_
  rw [hd]
  refine k ds _ w (ha.put hN undef) ((put_defers _ _ _).trans hds) hw' fun h2 => hX ?_
  rw [getD_set_ne false (Nat.ne_of_beq_eq_false hl)] at h2; exact h2
theorem wpAnyX_all {last : Nat} {rs : List Nat} {a : Act} {w : World} (hr : Region.ready .any ops listed = rs) (hne : rs ≠ [])
    (h : ∀ i ∈ rs, wpOp P ops Q i (fun a' w' => Sx last As (listed.setIfInBounds i true) w' ∧ wpAnyX P ops Q last As fuel (listed.setIfInBounds i true) a' w') a w) : wpAnyX P ops Q last As (fuel + 1) listed a w :=
  ⟨fun h0 => absurd (hr ▸ h0) hne, hr ▸ h⟩
/-- several may come up -/
def TAo (κ : Ctx) (P : Program) (N : Nat) (ops : Array Oper) (last : Nat) (As : List SA) (fuel : Nat) (listed : Array Bool) (F : FE) (L : List SA) (Q : Exit → Act → World → Prop) (i : Nat) : Prop :=
  ∀ ds a w, Env N F a → a.defers = ds.map mkD → St (SA.hid κ.X ds :: L) w → Sx last As listed w → wpOp P ops (Qn Q) i (fun a' w' => Sx last As (listed.setIfInBounds i true) w' ∧ wpAnyX P ops (Qn Q) last As fuel (listed.setIfInBounds i true) a' w') a w
theorem TA.any {last : Nat} {rs : List Nat} (hr : Region.ready .any ops listed = rs) (hne : rs ≠ []) (h : ∀ i ∈ rs, TAo κ P N ops last As fuel listed F L Q i) : TA κ P N ops last As (fuel + 1) listed F L Q :=
  fun ds a w ha hds hw hS => wpAnyX_all hr hne fun i hi => h i hi ds a w ha hds hw hS
/-- what is held is held still -/
def Keeps (last i : Nat) (listed : Array Bool) (As L' : List SA) : Prop := (listed.setIfInBounds i true).getD last false = true ∨ ∀ w, Holds L' w → Holds As w
theorem Keeps.sx {last i : Nat} {L' : List SA} {Y : SA} {w : World} (h : Keeps last i listed As L') (hw : St (Y :: L') w) : Sx last As (listed.setIfInBounds i true) w := fun h2 => by
  rcases h with h | h
  · rw [h] at h2; cases h2
  · exact h _ hw.tl.holds
theorem TAo.eff {last i : Nat} {d : Nat} {R : Value → List SA → Prop} (hi : ops[i]? = some o) (hd : o.dst = some d) (hN : Nat.blt d N = true) (hg : wantF ops F o = some true)
    (h : Eff P N o F L R) (k : ∀ v L', R v L' → Keeps last i listed As L' ∧ TA κ P N ops last As fuel (listed.setIfInBounds i true) ((d, some v) :: F) L' Q) : TAo κ P N ops last As fuel listed F L Q i := by
  intro ds a w ha hds hw hS
  refine wpOp_step hi fun K hK => ?_
  rw [if_pos (ha.wanted hg)]
  refine h.2 _ a w ha hw K (Qn Q) fun v L' w' hR hw' => hK _ _ ?_
  obtain ⟨k1, k2⟩ := k v L' hR
  refine ⟨k1.sx hw', k2 ds _ w' ?_ ((put_defers _ _ _).trans hds) hw' (k1.sx hw')⟩
  rw [hd]; exact ha.put hN v
theorem TAo.eff0 {last i : Nat} {R : Value → List SA → Prop} (hi : ops[i]? = some o) (hd : o.dst = none) (hg : wantF ops F o = some true)
    (h : Eff P N o F L R) (k : ∀ v L', R v L' → Keeps last i listed As L' ∧ TA κ P N ops last As fuel (listed.setIfInBounds i true) F L' Q) : TAo κ P N ops last As fuel listed F L Q i := by
  intro ds a w ha hds hw hS
  refine wpOp_step hi fun K hK => ?_
  rw [if_pos (ha.wanted hg)]
  refine h.2 _ a w ha hw K (Qn Q) fun v L' w' hR hw' => hK _ _ ?_
  obtain ⟨k1, k2⟩ := k v L' hR
  refine ⟨k1.sx hw', k2 ds _ w' ?_ ((put_defers _ _ _).trans hds) hw' (k1.sx hw')⟩
  rw [hd]; exact ha
/-- one operation alone may come up -/
theorem TA.one (i : Nat) {last d : Nat} {R : Value → List SA → Prop} (hr : Region.ready .any ops listed = [i]) (hi : ops[i]? = some o) (hd : o.dst = some d) (hN : Nat.blt d N = true) (hg : wantF ops F o = some true)
    (h : Eff P N o F L R) (k : ∀ v L', R v L' → Keeps last i listed As L' ∧ TA κ P N ops last As fuel (listed.setIfInBounds i true) ((d, some v) :: F) L' Q) : TA κ P N ops last As (fuel + 1) listed F L Q :=
  TA.any hr (by simp) fun j hj => by
    rw [List.mem_singleton] at hj; subst hj
    exact TAo.eff hi hd hN hg h k
theorem TA.one0 (i : Nat) {last : Nat} {R : Value → List SA → Prop} (hr : Region.ready .any ops listed = [i]) (hi : ops[i]? = some o) (hd : o.dst = none) (hg : wantF ops F o = some true)
    (h : Eff P N o F L R) (k : ∀ v L', R v L' → Keeps last i listed As L' ∧ TA κ P N ops last As fuel (listed.setIfInBounds i true) F L' Q) : TA κ P N ops last As (fuel + 1) listed F L Q :=
  TA.any hr (by simp) fun j hj => by
    rw [List.mem_singleton] at hj; subst hj
    exact TAo.eff0 hi hd hg h k
/-- a value's operation as an action -/
theorem Eff.val {v : Value} (hnd : ∀ c, o.op ≠ .defer c) (h : Yld P N o F L v) : Eff P N o F L (fun u L' => u = v ∧ L' = L) := by
  refine ⟨hnd, fun Y a w ha hw K Q hK => ?_⟩
  unfold Oper.wp
  rw [h a w ha hw.tl.holds, Oper.upon_value]
  exact hK v L w ⟨rfl, rfl⟩ hw
theorem TA.done {last : Nat} (hr : Region.ready .any ops listed = []) (k : TQ κ N .normal F L Q) : TA κ P N ops last As fuel listed F L Q := fun ds a w ha hds hw _ => by
  have := k ds a w ha hds hw
  cases fuel with
  | zero => exact ⟨hr, by simp, this⟩
  | succ n => exact ⟨fun _ => ⟨by simp, this⟩, by rw [hr]; simp⟩
end

/-! ### functions -/
theorem Fn.of {f : FuncId} {fn : Func} {args : List Value} {R : Value → List SA → Prop} (hf : P.funcs[f]? = some fn) (hb : fn.body = some c) (hn : args.length + (fn.ntmps - args.length) = N)
    (h : ∀ X, TC ⟨none, X⟩ P N c (argF 0 args) L (Qf P fn X R)) : Fn P f args L R := fun X w hw => by
  refine callsIn_wide.1 (callsIn_of_wp_marks (F := Fence.wide) (n := 0) hf hb trivial (wpIn_mono (h X [] _ w (hn ▸ Env.enter args fn.ntmps) rfl (St.unstar (St.up1 (St.emp hw)))) ?_))
  intro e a w q
  cases e <;> first | exact q | exact q.elim
theorem Fn.mono {f : FuncId} {args : List Value} {R R' : Value → List SA → Prop} (h : Fn P f args L R) (hr : ∀ v L', R v L' → ∃ L2, Ent L' L2 ∧ R' v L2) : Fn P f args L R' := fun X w hw =>
  (h X w hw).mono fun e w' ⟨v, L', he, hR, hw'⟩ => let ⟨L2, h1, h2⟩ := hr v L' hR; ⟨v, L2, he, h2, h1.hid hw'⟩
theorem Fn.pre {f : FuncId} {args : List Value} {R : Value → List SA → Prop} (h : Fn P f args L' R) (hL : Ent L L') : Fn P f args L R := fun X w hw => h X w (hL.hid hw)
theorem Fn.preE {f : FuncId} {args : List Value} {R : Value → List SA → Prop} (hL : Ent L L') (h : Fn P f args L' R) : Fn P f args L R := h.pre hL
/-- atoms put away into one -/
def bag : SA → List SA → SA
  | X, [] => X
  | X, B :: L0 => bag (SA.star X B) L0
theorem pull_mid {B : SA} {L0 : List SA} : ∀ L : List SA, Pull B (L ++ B :: L0) (L ++ L0)
  | [] => .here
  | _ :: L => .there (pull_mid L)
theorem Ent.swap {A B : SA} {L : List SA} : Ent (A :: B :: L) (B :: A :: L) := Ent.of_le (L := A :: B :: L) (L' := B :: A :: L) SA.Le.swap
theorem push_mid {B : SA} {L0 : List SA} : ∀ L : List SA, Ent (B :: (L ++ L0)) (L ++ B :: L0)
  | [] => Ent.refl
  | A :: L => Ent.swap.trans (Ent.under A (push_mid L))
theorem bag_in {w : World} : ∀ (L0 : List SA) {X : SA} {L : List SA}, St (X :: (L ++ L0)) w → St (bag X L0 :: L) w
  | [], _, _, h => by simpa [bag] using h
  | B :: L0, X, L, h => bag_in L0 (St.unstar (((Pull.there (B := X) (pull_mid L)).st h).up1))
theorem bag_out {w : World} : ∀ (L0 : List SA) {X : SA} {L : List SA}, St (bag X L0 :: L) w → St (X :: (L ++ L0)) w
  | [], _, _, h => by simpa [bag] using h
  | B :: L0, X, L, h => (push_mid L).hid (St.star (bag_out L0 h))
/-- what a function doesn't name stays -/
theorem Fn.frame {f : FuncId} {args : List Value} {R : Value → List SA → Prop} (h : Fn P f args L R) (L0 : List SA) : Fn P f args (L ++ L0) (fun v L' => ∃ L1, R v L1 ∧ L' = L1 ++ L0) := fun X w hw =>
  (h (bag X L0) w (bag_in L0 hw)).mono fun e w' ⟨v, L1, he, hR, hw'⟩ => ⟨v, L1 ++ L0, he, ⟨L1, hR, rfl⟩, bag_out L0 hw'⟩
theorem Fr.putObj' {S : List Nat} {a b : World} (h : Fr S a b) {l : Nat} (o : Obj) (hl : l ∈ S) : Fr S a (b.putObj l o) :=
  ⟨h.os, h.tape, h.output, by have := h.size; simp; omega, fun x hx hn => (World.putObj_heap_other (by
    intro e; subst e; exact hn hl)).trans (h.block x hx hn)⟩
theorem St.isObj {w : World} {b : Nat} {o : Obj} (h : St (SA.obj b o :: L) w) : w.heap[b]? = some o := let ⟨_, _, h, _⟩ := h.hd; h.2
theorem St.putObj {w : World} {b : Nat} {o : Obj} (h : St (SA.obj b o :: L) w) (o' : Obj) : St (SA.obj b o' :: L) (w.putObj b o') :=
  h.upd fun O R hA _ => ⟨O, R, ⟨hA.1, World.putObj_heap_same (Array.getElem?_eq_some_iff.1 hA.2).1⟩, fun k hk => .inl hk, fun k hk => .inr (.inl hk), Ag.fr (Fr.putObj' (Fr.refl [b] w) o' (by simp)) (fun k hk e => by simp at e; subst e; exact hk hA.1)⟩
theorem St.newObj {w : World} (h : St L w) (o : Obj) : St (SA.obj w.heap.size o :: L) (w.alloc o) :=
  h.emp.upd fun O R _ _ => ⟨fun k => k = w.heap.size, fun _ => False, ⟨rfl, World.alloc_heap_new w o⟩, fun k hk => .inr (by subst hk; simp), by simp, Ag.fr ((Fr.refl [] _).alloc _) (by simp)⟩
/-- a function's end, behind ranges over functions as well -/
theorem leaveE {fn : Func} {R : Value → List SA → Prop} {X : SA} {tmps : Array Value} {v : Value} {L2 : List SA} (hr : ∀ w, Holds L w → (results fn tmps).run P w = .ok v w) (hR : R v L2) (hE : Ent L L2) : ∀ (ds : List Nat) (w : World), St (SA.hid X ds :: L) w →
    LeavesInM (fen none) 0 P fn tmps (Ret X R) (ds.map mkD) .returning w
  | [], w, h => ⟨v, hr w h.tl.holds, v, L2, rfl, hR, hE.hid (St.star h).up1.tl⟩
  | D :: ds, w, h => by
    have h0 : St (SA.obj D (.deferred (some [])) :: SA.marks ds :: X :: L) w := St.star (St.star h).up1
    have h1 : St (SA.obj D (.deferred (some [])) :: X :: SA.marks ds :: L) w := (Ent.under _ Ent.swap).st h0
    refine ⟨by simp, .inl ⟨D, w.putObj D (.deferred none), rfl, run_takeDeferred h1.isObj, leaveE hr hR hE ds _ (St.unstar ((h1.putObj (.deferred none)).tl))⟩⟩
theorem TQ.ret {fn : Func} {R : Value → List SA → Prop} {v : Value} (hr : ∀ a w, Env N F a → Holds L w → (results fn a.tmps).run P w = .ok v w) (hR : R v L) {X : SA} : TQ ⟨none, X⟩ N .ret F L (Qf P fn X R) := fun ds a w ha hd hw => by
  show LeavesInM (fen none) 0 P fn a.tmps (Ret X R) a.defers .returning w
  rw [hd]; exact leaveE (fun w h => hr a w ha h) hR Ent.refl ds w hw
theorem TQ.end' {fn : Func} {R : Value → List SA → Prop} {v : Value} (hr : ∀ a w, Env N F a → Holds L w → (results fn a.tmps).run P w = .ok v w) (hR : R v L) {X : SA} : TQ ⟨none, X⟩ N .normal F L (Qf P fn X R) := fun ds a w ha hd hw => by
  show LeavesInM (fen none) 0 P fn a.tmps (Ret X R) a.defers .returning w
  rw [hd]; exact leaveE (fun w h => hr a w ha h) hR Ent.refl ds w hw
theorem res0 {fn : Func} (h : fn.results = #[]) : ∀ a w, Env N F a → Holds L w → (results fn a.tmps).run P w = .ok (.tuple #[]) w := fun a w _ _ => results_none h _ _ _
theorem res1 {fn : Func} {t : Tmp} {v : Value} (h : fn.results = #[.tmp t]) (hv : fget F t = some v) : ∀ a w, Env N F a → Holds L w → (results fn a.tmps).run P w = .ok v w := fun a w ha _ => by
  rw [results_tmp h, ha.get t v hv]
theorem res2 {fn : Func} {t u : Tmp} {v x : Value} (h : fn.results = #[.tmp t, .tmp u]) (hv : fget F t = some v) (hx : fget F u = some x) : ∀ a w, Env N F a → Holds L w → (results fn a.tmps).run P w = .ok (.tuple #[v, x]) w := fun a w ha _ => by
  rw [results_tmp2 h, ha.get t v hv, ha.get u x hx]
end
end Go.Proofs.Ytomplpdeeomehaa
