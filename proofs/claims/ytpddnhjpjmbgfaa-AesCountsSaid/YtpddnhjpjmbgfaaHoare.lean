/- A Hoare logic over the walks: frames as lists of slots, worlds as lists of atoms; a rule for each form of code. No program is named. -/
import Derived.Test.YtpddnhjpjmbgfaaSl
import Derived.OrdersHeld
import Derived.WalkKit
import Derived.Deep.LoopGhost
import Derived.RegionTactic
namespace Go.Proofs.Ytpddnhjpjmbgfaa
set_option linter.unusedVariables false
set_option linter.unusedSimpArgs false
open Go.RowKit

/-- What is known of the slots: the first entry counts. -/
abbrev FE := List (Nat × Option Value)
def fget : FE → Nat → Option Value
  | [], _ => none
  | (t, v) :: r, n => cond (Nat.beq t n) v (fget r n)
structure Env (N : Nat) (F : FE) (a : Act) : Prop where
  get : ∀ t v, fget F t = some v → a.tmps.getD t undef = v
  size : a.tmps.size = N
  defers : a.defers = []
def evO (F : FE) : Operand → Option Value
  | .tmp t => fget F t
  | .const v => some v
  | .global g => some (.pointer (some ⟨g, 0, none⟩))
  | .func f => some (.func (.func f) #[] #[])
def evA (F : FE) : List Operand → Option (List Value)
  | [] => some []
  | x :: r => match evO F x, evA F r with
    | some v, some vs => some (v :: vs)
    | _, _ => none
def argF : Nat → List Value → FE
  | _, [] => []
  | k, v :: r => (k, some v) :: argF (k + 1) r
/-- F' says no more than F. -/
def Sub (F : FE) : FE → Prop
  | [] => True
  | (t, some v) :: r => fget F t = some v ∧ Sub F r
  | (_, none) :: r => Sub F r

section
variable {N : Nat} {F F' : FE} {a : Act}
theorem Env.eval (h : Env N F a) {x : Operand} {v : Value} (hx : evO F x = some v) : a.eval x = v := by
  cases x with
  | tmp t => exact h.get t v hx
  | const c => simp [evO] at hx; exact hx
  | global g => simpa [evO, Act.eval] using hx
  | func f => simpa [evO, Act.eval] using hx
theorem Env.evalA (h : Env N F a) : ∀ {xs : List Operand} {vs : List Value}, evA F xs = some vs → xs.map a.eval = vs := by
  intro xs
  induction xs with
  | nil => intro vs hv; simp [evA] at hv; simp [hv]
  | cons x r ih =>
    intro vs hv
    simp only [evA] at hv
    split at hv
    · rename_i v vs' h1 h2
      simp at hv; subst hv
      simp [h.eval h1, ih h2]
    · cases hv
theorem Env.put (h : Env N F a) {d : Nat} (hd : Nat.blt d N = true) (v : Value) : Env N ((d, some v) :: F) (a.put (some d) v) := by
  have hd' : d < N := by simpa [Nat.blt_eq] using hd
  refine ⟨fun t u ht => ?_, by simpa [Act.put] using h.size, h.defers⟩
  simp only [fget] at ht
  cases hb : Nat.beq d t with
  | true =>
    rw [hb] at ht
    have : d = t := Nat.eq_of_beq_eq_true hb
    subst this
    simp at ht; subst ht
    simp [Act.put, h.size, hd']
  | false =>
    rw [hb] at ht
    have hne : d ≠ t := Nat.ne_of_beq_eq_false hb
    have := h.get t u (by simpa using ht)
    simpa [Act.put, Array.getElem?_setIfInBounds_ne hne] using this
theorem Env.putNone (h : Env N F a) (v : Value) : Env N F (a.put none v) := h
theorem Sub.get (h : Sub F F') : ∀ t v, fget F' t = some v → fget F t = some v := by
  induction F' with
  | nil => intro t v h; cases h
  | cons x r ih =>
    obtain ⟨t0, v0⟩ := x
    intro t v ht
    simp only [fget] at ht
    cases hb : Nat.beq t0 t with
    | true =>
      rw [hb] at ht
      have : t0 = t := Nat.eq_of_beq_eq_true hb
      subst this
      simp at ht; subst ht
      exact h.1
    | false =>
      rw [hb] at ht
      cases v0 with
      | none => exact ih h t v ht
      | some v0 => exact ih h.2 t v ht
/-- F' says no more than F. -/
def Says (F F' : FE) : Prop := ∀ t v, fget F' t = some v → fget F t = some v
theorem Env.says (h : Env N F a) (hs : Says F F') : Env N F' a := ⟨fun t v ht => h.get t v (hs t v ht), h.size, h.defers⟩
theorem Env.sub (h : Env N F a) (hs : Sub F F') : Env N F' a := ⟨fun t v ht => h.get t v (hs.get t v ht), h.size, h.defers⟩
theorem fget_argF (vs : List Value) : ∀ k t, fget (argF k vs) t = if k ≤ t then vs[t - k]? else none := by
  induction vs with
  | nil => intro k t; simp [argF, fget]
  | cons v r ih =>
    intro k t
    simp only [argF, fget, ih]
    cases hb : Nat.beq k t with
    | true =>
      have : k = t := Nat.eq_of_beq_eq_true hb
      subst this; simp
    | false =>
      have hne : k ≠ t := Nat.ne_of_beq_eq_false hb
      simp only [cond_false]
      by_cases h : k ≤ t
      · rw [if_pos h, if_pos (by omega), show t - k = (t - (k + 1)) + 1 by omega]; simp
      · rw [if_neg h, if_neg (by omega)]
theorem Env.enter (vs : List Value) (n : Nat) : Env (vs.length + (n - vs.length)) (argF 0 vs) { tmps := vs.toArray ++ Array.replicate (n - vs.toArray.size) undef, defers := [] } := by
  refine ⟨fun t v h => ?_, by simp, rfl⟩
  rw [fget_argF] at h
  simp only [Nat.zero_le, if_true, Nat.sub_zero] at h
  have hlt : t < vs.length := (List.getElem?_eq_some_iff.1 h).1
  simp [Array.getElem?_append, hlt]
  exact (List.getElem?_eq_some_iff.1 h).2
end

/-- Each of these atoms holds (not: apart). -/
inductive In (A : SA) : List SA → Prop
  | here {L : List SA} : In A (A :: L)
  | there {B : SA} {L : List SA} : In A L → In A (B :: L)
def Holds (L : List SA) (w : World) : Prop := ∀ A, In A L → ∃ O R, A.p w O R
/-- A taken out of L. -/
inductive Pull (A : SA) : List SA → List SA → Prop
  | here {L : List SA} : Pull A (A :: L) L
  | there {B : SA} {L L' : List SA} : Pull A L L' → Pull A (B :: L) (B :: L')
/-- L says L' (and may say more). -/
def Ent (L L' : List SA) : Prop := ∀ w O R, (SA.all L).p w O R → ∃ O' R', (SA.all L').p w O' R' ∧ (∀ k, O' k → O k) ∧ (∀ k, R' k → O k ∨ R k)
section
variable {A B A' : SA} {L L' L0 L1 L2 : List SA} {w : World}
theorem St.holds (h : St L w) : Holds L w := by
  intro A hA
  induction hA with
  | here => obtain ⟨O, R, h, _⟩ := h.hd; exact ⟨O, R, h⟩
  | there _ ih => exact ih h.tl
theorem Ent.st (h : Ent L L') (k : St L w) : St L' w := by
  obtain ⟨O, R, hL, hb⟩ := k
  obtain ⟨O', R', h', h1, h2⟩ := h w O R hL
  exact ⟨O', R', h', fun k hk => hb k (hk.elim (fun h => .inl (h1 k h)) (h2 k))⟩
theorem Ent.of_le (h : SA.Le (SA.all L) (SA.all L')) : Ent L L' := fun w O R x => ⟨O, R, h w O R x, fun _ h => h, fun _ h => .inr h⟩
theorem Ent.refl : Ent L L := .of_le (SA.Le.refl _)
theorem Ent.trans (h : Ent L L1) (k : Ent L1 L2) : Ent L L2 := fun w O R x => by
  obtain ⟨O', R', h', h1, h2⟩ := h w O R x
  obtain ⟨O2, R2, k', k1, k2⟩ := k w O' R' h'
  exact ⟨O2, R2, k', fun x hx => h1 x (k1 x hx), fun x hx => (k2 x hx).elim (fun h => .inl (h1 x h)) (h2 x)⟩
theorem Ent.under (B : SA) (h : Ent L L') : Ent (B :: L) (B :: L') := by
  rintro w O R ⟨O1, R1, O2, R2, hA, hL, r1, r2, r3, r4⟩
  obtain ⟨O', R', hL', h1, h2⟩ := h w O2 R2 hL
  refine ⟨O, fun k => O k ∨ R k, ⟨O1, R1, O', R', hA, hL', fun k hk => ⟨(r1 k hk).1, fun e => (r1 k hk).2.1 (h1 k e), fun e => ?_⟩,
    fun k hk => r2 k (h1 k hk), fun k hk => .inr (r3 k hk), fun k hk => ?_⟩, fun _ h => h, fun _ h => h⟩
  · rcases h2 k e with e | e
    · exact (r1 k hk).2.1 e
    · exact (r1 k hk).2.2 e
  · rcases h2 k hk with e | e
    · exact .inl (r2 k e).1
    · exact .inr (r4 k e)
theorem Ent.drop : Ent (B :: L) L := by
  rintro w O R ⟨O1, R1, O2, R2, hA, hL, r1, r2, r3, r4⟩
  exact ⟨O2, R2, hL, fun k hk => (r2 k hk).1, fun k hk => .inr (r4 k hk)⟩
theorem Ent.skip (h : Ent L L') : Ent (B :: L) L' := Ent.drop.trans h
/-- the head, weakened or frozen -/
theorem Ent.imp (h : ∀ w O R, A.p w O R → ∃ O' R', A'.p w O' R' ∧ (∀ k, O' k → O k) ∧ (∀ k, R' k → O k ∨ R k)) : Ent (A :: L) (A' :: L) := by
  rintro w O R ⟨O1, R1, O2, R2, hA, hL, r1, r2, r3, r4⟩
  obtain ⟨O', R', hA', h1, h2⟩ := h w O1 R1 hA
  refine ⟨O, fun k => O k ∨ R k, ⟨O', R', O2, R2, hA', hL, fun k hk => r1 k (h1 k hk), fun k hk => ⟨(r2 k hk).1, fun e => ?_⟩, fun k hk => ?_, fun k hk => .inr (r4 k hk)⟩, fun _ h => h, fun _ h => h⟩
  · rcases h2 k e with e | e
    · exact (r1 k e).2.1 hk
    · exact (r2 k hk).2 e
  · rcases h2 k hk with e | e
    · exact .inl (r1 k e).1
    · exact .inr (r3 k e)
/-- an atom that owns nothing may be doubled -/
def Dup (A : SA) : Prop := ∀ w O R, A.p w O R → A.p w (fun _ => False) R
theorem Ent.dup (h : Dup A) : Ent (A :: L) (A :: A :: L) := by
  rintro w O R ⟨O1, R1, O2, R2, hA, hL, r1, r2, r3, r4⟩
  have hA' := h w O1 R1 hA
  refine ⟨O, R, ⟨fun _ => False, R1, O2, fun k => R1 k ∨ R2 k, hA', ⟨fun _ => False, R1, O2, R2, hA', hL, fun k hk => hk.elim, fun k hk => ⟨hk, (r2 k hk).2⟩, fun k hk => .inl hk, fun k hk => .inr hk⟩, fun k hk => hk.elim, fun k hk => ⟨(r2 k hk).1, (r2 k hk).2⟩, r3, fun k hk => hk.elim (r3 k) (r4 k)⟩, fun _ h => h, fun _ h => .inr h⟩
theorem Pull.le (h : Pull A L L') : SA.Le (SA.all L) (SA.all (A :: L')) := by
  induction h with
  | here => exact SA.Le.refl _
  | there _ ih => exact (SA.Le.star (.refl _) ih).trans .swap
theorem Pull.ent (h : Pull A L L') : Ent L (A :: L') := .of_le h.le
theorem Pull.st (h : Pull A L L') (k : St L w) : St (A :: L') w := k.le h.le
theorem Ent.nil : Ent L [] := fun _ _ _ _ => ⟨fun _ => False, fun _ => False, trivial, by simp, by simp⟩
theorem Ent.cons (h : Pull A L L0) (k : Ent L0 L') : Ent L (A :: L') := h.ent.trans (k.under A)
theorem Pull.there2 {C : SA} (h : Pull A L L') : Pull A (B :: C :: L) (B :: C :: L') := .there (.there h)
end

/-! ### The judgements -/
def TC (P : Program) (N : Nat) (c : Code) (F : FE) (L : List SA) (Q : Exit → Act → World → Prop) : Prop := ∀ a w, Env N F a → St L w → c.wp P Q a w
def TQ (N : Nat) (e : Exit) (F : FE) (L : List SA) (Q : Exit → Act → World → Prop) : Prop := ∀ a w, Env N F a → St L w → Q e a w
def TL (P : Program) (N : Nat) (ops : Array Oper) (rest : List Oper) (F : FE) (L : List SA) (Q : Exit → Act → World → Prop) : Prop := ∀ a w, Env N F a → St L w → wpList P ops Q rest a w
/-- what is held till the operation 'last' has come up -/
def Sx (last : Nat) (As : List SA) (listed : Array Bool) (w : World) : Prop := listed.getD last false = false → Holds As w
def wpAnyX (P : Program) (ops : Array Oper) (Q : Exit → Act → World → Prop) (last : Nat) (As : List SA) : Nat → Array Bool → Act → World → Prop
  | 0, listed, a, w => Region.ready .any ops listed = [] ∧ Q .normal a w
  | fuel + 1, listed, a, w => (Region.ready .any ops listed = [] → Q .normal a w) ∧
    ∀ i ∈ Region.ready .any ops listed, wpOp P ops Q i (fun a' w' => Sx last As (listed.setIfInBounds i true) w' ∧ wpAnyX P ops Q last As fuel (listed.setIfInBounds i true) a' w') a w
theorem wpAny_of_X {P : Program} {ops : Array Oper} {Q : Exit → Act → World → Prop} {last : Nat} {As : List SA} : ∀ (fuel : Nat) (listed : Array Bool) (a : Act) (w : World), wpAnyX P ops Q last As fuel listed a w → wpAny P .any ops Q fuel listed a w
  | 0, _, _, _, h => h
  | fuel + 1, _, _, _, h => ⟨h.1, fun i hi => wpOp_mono (fun a' w' h' => wpAny_of_X fuel _ a' w' h'.2) (h.2 i hi)⟩
/-- 'last' waits for i -/
def waits (ops : Array Oper) (last i : Nat) : Bool := match ops[last]? with
  | some o => o.after.any fun e => Region.binds .any e && e.on == i
  | none => true
theorem wpAnyX_first {P : Program} {ops : Array Oper} {Q : Exit → Act → World → Prop} {last : Nat} {As : List SA} {S : World → Prop} {i : Nat} {oi : Oper} {v : Value} (hi : ops[i]? = some oi) (hsel : ∀ (j : Nat) (o : Oper) cs b, ops[j]? = some o → o.op ≠ .select cs b)
    (hQ : ∀ c a w, Q (.panic c) (a.put oi.dst v) w → Q (.panic c) a w) (hil : i ≠ last) (hS : (∀ w, S w) ∨ ((∀ w, Holds As w → S w) ∧ waits ops last i = true)) :
    ∀ (fuel : Nat) (listed : Array Bool) (a : Act) (w : World),
      (∀ j oj, ops[j]? = some oj → j ≠ i → listed.getD j true = false → (∀ e ∈ oj.after, Region.binds .any e = true → e.on ≠ i) → oi.apart ops oj = true) →
      i ∈ Region.ready .any ops listed → YieldsIf P ops S oi v a → Sx last As listed w → ((∀ w, S w) ∨ listed.getD last false = false) →
      wpAnyX P ops Q last As fuel (listed.setIfInBounds i true) (a.put oi.dst v) w → wpAnyX P ops Q last As (fuel + 1) listed a w := by
  have hsw : ∀ (listed : Array Bool) (w : World), Sx last As listed w → ((∀ w, S w) ∨ listed.getD last false = false) → S w := fun listed w h1 h2 => by
    rcases h2 with h2 | h2
    · exact h2 w
    · rcases hS with h | h
      · exact h w
      · exact h.1 w (h1 h2)
  have hsx : ∀ (listed : Array Bool) (w : World), Sx last As listed w → Sx last As (listed.setIfInBounds i true) w := fun listed w h1 h2 => by
    refine h1 ?_
    cases hq : listed.getD last false with
    | false => rfl
    | true => rw [getD_set_true hq] at h2; cases h2
  intro fuel
  induction fuel with
  | zero =>
    intro listed a w _ hr hy hX hl H
    refine ⟨fun h => (by rw [h] at hr; cases hr), fun j hj => ?_⟩
    by_cases hji : j = i
    · subst hji; exact hy.wpOp hi (hsw _ _ hX hl) ⟨hsx _ _ hX, H⟩
    · have := ready_mono hj hji
      rw [H.1] at this
      cases this
  | succ fuel ih =>
    intro listed a w hfree hr hy hX hl H
    refine ⟨fun h => (by rw [h] at hr; cases hr), fun j hj => ?_⟩
    by_cases hji : j = i
    · subst hji; exact hy.wpOp hi (hsw _ _ hX hl) ⟨hsx _ _ hX, H⟩
    · have h1 := H.2 j (ready_mono hj hji)
      obtain ⟨hjun, oj, hoj, hall⟩ := mem_ready.1 hj
      have hnot : ∀ e ∈ oj.after, Region.binds .any e = true → e.on ≠ i := fun e he hb heq => by
        have h1 := hall e he hb
        have h0 := (mem_ready.1 hr).1
        rw [heq] at h1
        rcases Nat.lt_or_ge i listed.size with h' | h'
        · simp [h'] at h0 h1; rw [h0] at h1; cases h1
        · simp [Array.getElem?_eq_none h'] at h1
      have h2 := wpOp_putIf hoj (hfree j oj hoj hji hjun hnot) (fun cs b => hsel i oi cs b hi) (fun cs b => hsel j oj cs b hoj) hQ hy h1
      have hfree' : ∀ k ok, ops[k]? = some ok → k ≠ i → (listed.setIfInBounds j true).getD k true = false →
          (∀ e ∈ ok.after, Region.binds .any e = true → e.on ≠ i) → oi.apart ops ok = true := fun k ok hk hki hun hno => by
        refine hfree k ok hk hki ?_ hno
        by_cases hjk : j = k
        · subst hjk; exact hjun
        · rw [getD_set_ne true hjk] at hun; exact hun
      have hl' : (∀ w, S w) ∨ (listed.setIfInBounds j true).getD last false = false := by
        rcases hl with hl | hl
        · exact .inl hl
        · rcases hS with h | h
          · exact .inl h
          · right
            by_cases hjl : j = last
            · exfalso
              subst hjl
              have hw := h.2
              unfold waits at hw
              rw [hoj] at hw
              obtain ⟨e, he, hb⟩ := Array.any_eq_true'.1 hw
              simp only [Bool.and_eq_true, beq_iff_eq] at hb
              exact hnot e he hb.1 hb.2
            · rw [getD_set_ne false hjl]; exact hl
      have hX' : ∀ w', Sx last As ((listed.setIfInBounds i true).setIfInBounds j true) w' → Sx last As (listed.setIfInBounds j true) w' := fun w' h1 h2 => by
        refine h1 ?_
        rw [Array.setIfInBounds_comm _ _ (Ne.symm hji)]
        rw [getD_set_ne false hil]; exact h2
      refine wpOp_mono (fun a' w' h3 => ⟨hX' _ h3.2.1, ih (listed.setIfInBounds j true) a' w' hfree' (ready_mono hr (Ne.symm hji)) h3.1 (hX' _ h3.2.1) hl' ?_⟩) h2
      rw [Array.setIfInBounds_comm _ _ hji]
      exact h3.2.2
/-- in any order; As hold till 'last' has come up -/
def TA (P : Program) (N : Nat) (ops : Array Oper) (last : Nat) (As : List SA) (fuel : Nat) (listed : Array Bool) (F : FE) (L : List SA) (Q : Exit → Act → World → Prop) : Prop :=
  ∀ a w, Env N F a → St L w → Sx last As listed w → wpAnyX P ops Q last As fuel listed a w
/-- an operation yields -/
def Yld (P : Program) (N : Nat) (o : Oper) (F : FE) (As : List SA) (v : Value) : Prop := ∀ a w, Env N F a → Holds As w → (execOp a.eval o).run P w = .ok (.value v) w
/-- an operation acts -/
def Eff (P : Program) (N : Nat) (o : Oper) (F : FE) (L : List SA) (R : Value → List SA → Prop) : Prop :=
  ∀ a w, Env N F a → St L w → ∀ (K : Act → World → Prop) Q, (∀ v L' w', R v L' → St L' w' → K (a.put o.dst v) w') → o.wp P a w K Q
/-- a function's contract -/
def Ret (R : Value → List SA → Prop) (e : Ending) (w : World) : Prop := ∃ v L, e = .returned v ∧ R v L ∧ St L w
def Fn (P : Program) (f : FuncId) (args : List Value) (L : List SA) (R : Value → List SA → Prop) : Prop := ∀ w, St L w → Calls P f args.toArray w (Ret R)

section
variable {P : Program} {N : Nat} {F F' : FE} {L L' L0 As : List SA} {Q : Exit → Act → World → Prop} {x y c : Code}

theorem TC.sub (h : TC P N c F' L' Q) (hF : Sub F F') (hL : Ent L L') : TC P N c F L Q := fun a w ha hw => h a w (ha.sub hF) (hL.st hw)
theorem TQ.sub {e : Exit} (h : TQ N e F' L' Q) (hF : Sub F F') (hL : Ent L L') : TQ N e F L Q := fun a w ha hw => h a w (ha.sub hF) (hL.st hw)
theorem TC.seq (h : TC P N x F L (Exit.then (fun a w => y.wp P Q a w) Q)) : TC P N (.seq x y) F L Q := fun a w ha hw => wp_seq (h a w ha hw)
theorem TQ.next (h : TC P N y F L Q) {Q' : Exit → Act → World → Prop} : TQ N .normal F L (Exit.then (fun a w => y.wp P Q a w) Q') := h
theorem TQ.then_exit {K : Act → World → Prop} {id : Nat} (h : TQ N (.exit id) F L Q) : TQ N (.exit id) F L (Exit.then K Q) := h
theorem TQ.then_ret {K : Act → World → Prop} (h : TQ N .ret F L Q) : TQ N .ret F L (Exit.then K Q) := h
theorem TQ.block_normal {id : Nat} (h : TQ N .normal F L Q) : TQ N .normal F L (Exit.inBlock id Q) := h
theorem TQ.block_ret {id : Nat} (h : TQ N .ret F L Q) : TQ N .ret F L (Exit.inBlock id Q) := h
theorem TQ.block_exit {id : Nat} (h : TQ N .normal F L Q) : TQ N (.exit id) F L (Exit.inBlock id Q) := fun a w ha hw => by
  show if id = id then _ else _
  rw [if_pos rfl]; exact h a w ha hw
theorem TQ.block_out {id id' : Nat} (hne : Nat.beq id' id = false) (h : TQ N (.exit id') F L Q) : TQ N (.exit id') F L (Exit.inBlock id Q) := fun a w ha hw => by
  show if id' = id then _ else _
  rw [if_neg (Nat.ne_of_beq_eq_false hne)]; exact h a w ha hw
theorem TC.block {id : Nat} (h : TC P N c F L (Exit.inBlock id Q)) : TC P N (.block id c) F L Q := fun a w ha hw => wp_block (h a w ha hw)
theorem TC.skip (h : TQ N .normal F L Q) : TC P N .skip F L Q := fun a w ha hw => wp_skip (h a w ha hw)
theorem TC.exit {id : Nat} (h : TQ N (.exit id) F L Q) : TC P N (.exit id) F L Q := fun a w ha hw => wp_exit (h a w ha hw)
theorem TC.ret (h : TQ N .ret F L Q) : TC P N .ret F L Q := fun a w ha hw => wp_ret (h a w ha hw)
theorem TC.cond {cc : Operand} {t : Bool} (hc : evO F cc = some (.bool t)) (h1 : t = true → TC P N x F L Q) (h2 : t = false → TC P N y F L Q) : TC P N (.cond cc x y) F L Q := fun a w ha hw =>
  wp_cond_split (ha.eval hc) (fun e => h1 e a w ha hw) (fun e => h2 e a w ha hw)
theorem TC.cond_t {cc : Operand} (hc : evO F cc = some (.bool true)) (h1 : TC P N x F L Q) : TC P N (.cond cc x y) F L Q := TC.cond hc (fun _ => h1) (fun e => by cases e)
theorem TC.cond_f {cc : Operand} (hc : evO F cc = some (.bool false)) (h1 : TC P N y F L Q) : TC P N (.cond cc x y) F L Q := TC.cond hc (fun e => by cases e) (fun _ => h1)
theorem TC.region {id : Nat} {l : List Oper} (h : TL P N l.toArray l F L Q) : TC P N (.region id l.toArray false) F L Q := fun a w ha hw => wp_region_lit (h a w ha hw)
theorem TC.draws (last : Nat) (As : List SA) {id : Nat} {l : List Oper} (hm : P.follows .mixedOrders = true) (hS : ∀ w, Holds L w → Holds As w) (h : TA P N l.toArray last As l.length (Array.replicate l.length false) F L Q) : TC P N (.region id l.toArray true) F L Q := fun a w ha hw =>
  wp_region_any hm (wpAny_of_X _ _ _ _ (by
    have hw' := hw.drew
    have := h a w.drew ha hw' (fun _ => hS _ hw'.holds)
    simpa using this))

/-- the round of a loop ends here -/
def Lp {ι : Type} (N : Nat) (I : ι → Prop) (Fi : ι → FE) (Li : ι → List SA) (μ : ι → Nat) (m : Nat) (a : Act) (w : World) : Prop := ∃ j, I j ∧ μ j < m ∧ Env N (Fi j) a ∧ St (Li j) w
theorem TC.loop {ι : Type} (I : ι → Prop) (Fi : ι → FE) (Li : ι → List SA) (μ : ι → Nat) (i0 : ι) (h0 : I i0) (hF : Sub F (Fi i0)) (hL : Ent L (Li i0))
    (round : ∀ i, I i → TC P N c (Fi i) (Li i) (Exit.then (Lp N I Fi Li μ (μ i)) Q)) : TC P N (.loop c) F L Q := by
  intro a w ha hw
  refine wp_loop_ghost (fun n a w => ∃ i, μ i = n ∧ I i ∧ Env N (Fi i) a ∧ St (Li i) w) (μ i0) ⟨i0, rfl, h0, ha.sub hF, hL.st hw⟩ ?_
  rintro n a w ⟨i, rfl, hi, ha, hw⟩
  refine wp_mono (round i hi a w ha hw) ?_
  intro e a' w' hq
  cases e with
  | normal =>
    obtain ⟨j, hj, hm, ha', hw'⟩ := hq
    exact ⟨μ j, hm, j, rfl, hj, ha', hw'⟩
  | exit id => exact hq
  | goto l => exact hq
  | ret => exact hq
  | panic ch => exact hq
  | outgrown => exact hq
theorem TQ.loop {ι : Type} {I : ι → Prop} {Fi : ι → FE} {Li : ι → List SA} {μ : ι → Nat} {m : Nat} (j : ι) (hj : I j) (hm : μ j < m) (hF : Sub F (Fi j)) (hL : Ent L (Li j)) :
    TQ N .normal F L (Exit.then (Lp N I Fi Li μ m) Q) := fun _ _ ha hw => ⟨j, hj, hm, ha.sub hF, hL.st hw⟩
/-- ways meet here -/
def Md {ι : Type} (N : Nat) (I : ι → Prop) (Fi : ι → FE) (Li : ι → List SA) (a : Act) (w : World) : Prop := ∃ j, I j ∧ Env N (Fi j) a ∧ St (Li j) w
theorem TC.cut {ι : Type} (I : ι → Prop) (Fi : ι → FE) (Li : ι → List SA) (hx : TC P N x F L (Exit.then (Md N I Fi Li) Q)) (hy : ∀ j, I j → TC P N y (Fi j) (Li j) Q) : TC P N (.seq x y) F L Q := fun a w ha hw => by
  refine wp_seq (wp_mono (hx a w ha hw) ?_)
  intro e a' w' hq
  cases e with
  | normal => obtain ⟨j, hj, ha', hw'⟩ := hq; exact hy j hj a' w' ha' hw'
  | exit id => exact hq
  | goto l => exact hq
  | ret => exact hq
  | panic ch => exact hq
  | outgrown => exact hq
theorem TQ.meet {ι : Type} {I : ι → Prop} {Fi : ι → FE} {Li : ι → List SA} (j : ι) (hj : I j) (hF : Sub F (Fi j)) (hL : Ent L (Li j)) :
    TQ N .normal F L (Exit.then (Md N I Fi Li) Q) := fun _ _ ha hw => ⟨j, hj, ha.sub hF, hL.st hw⟩


/-! ### loops and meetings: what is not named stays -/
def hasKey (F : FE) (t : Nat) : Bool := F.any fun p => Nat.beq p.1 t
theorem hasKey_cons (p : Nat × Option Value) (r : FE) (t : Nat) : hasKey (p :: r) t = (Nat.beq p.1 t || hasKey r t) := rfl
theorem fget_app_t {F G : FE} {t : Nat} (h : hasKey F t = true) : fget (F ++ G) t = fget F t := by
  induction F with
  | nil => cases h
  | cons x r ih =>
    rw [hasKey_cons] at h
    simp only [List.cons_append, fget]
    cases hb : Nat.beq x.1 t with
    | true => rfl
    | false => rw [hb] at h; exact ih (by simpa using h)
theorem fget_app_f {F G : FE} {t : Nat} (h : hasKey F t = false) : fget (F ++ G) t = fget G t := by
  induction F with
  | nil => rfl
  | cons x r ih =>
    rw [hasKey_cons, Bool.or_eq_false_iff] at h
    simp only [List.cons_append, fget, h.1]
    exact ih h.2
theorem fget_key {F : FE} {t : Nat} {v : Value} (h : fget F t = some v) : hasKey F t = true := by
  induction F with
  | nil => cases h
  | cons x r ih =>
    rw [hasKey_cons]
    simp only [fget] at h
    cases hb : Nat.beq x.1 t with
    | true => rfl
    | false => rw [hb] at h; simpa using ih h
/-- F is G with entries ks put ahead -/
inductive Grow (G : FE) : List Nat → FE → Prop
  | refl : Grow G [] G
  | step {t : Nat} {v : Option Value} {ks : List Nat} {F : FE} : Grow G ks F → Grow G (t :: ks) ((t, v) :: F)
  | app {C : FE} {ks : List Nat} {F : FE} : Grow G ks F → Grow G (C.map (·.1) ++ ks) (C ++ F)
theorem Grow.get {G F : FE} {ks : List Nat} (h : Grow G ks F) : ∀ t, ks.any (Nat.beq · t) = false → fget F t = fget G t := by
  induction h with
  | refl => intro t _; rfl
  | @step t0 v ks F _ ih =>
    intro t ht
    simp only [List.any_cons, Bool.or_eq_false_iff] at ht
    simp only [fget, ht.1, cond_false]
    exact ih t ht.2
  | @app C ks F _ ih =>
    intro t ht
    simp only [List.any_append, Bool.or_eq_false_iff] at ht
    rw [fget_app_f, ih t ht.2]
    have h1 := ht.1
    rw [List.any_map] at h1
    exact h1
/-- the changed slots C, the unknown ones U, the rest as before -/
def keysOk (ks : List Nat) (C : FE) (U : List Nat) (F : FE) : Bool := ks.all fun t => hasKey C t || U.any (Nat.beq · t) || !hasKey F t
def unk (U : List Nat) : FE := U.map fun t => (t, none)
theorem fget_unk (U : List Nat) (t : Nat) : fget (unk U) t = none := by
  induction U with
  | nil => rfl
  | cons x r ih => simp only [unk, List.map_cons, fget] at ih ⊢; rw [ih]; cases Nat.beq x t <;> rfl
theorem hasKey_unk (U : List Nat) (t : Nat) : hasKey (unk U) t = U.any (Nat.beq · t) := by
  simp [hasKey, unk, List.any_map, Function.comp_def]
theorem Says.mk0 {F C : FE} {U : List Nat} (h : Sub F C) : Says F (C ++ (unk U ++ F)) := by
  intro t v hv
  cases h1 : hasKey C t with
  | true => rw [fget_app_t h1] at hv; exact h.get t v hv
  | false =>
    rw [fget_app_f h1] at hv
    cases h2 : hasKey (unk U) t with
    | true => rw [fget_app_t h2, fget_unk] at hv; cases hv
    | false => rw [fget_app_f h2] at hv; exact hv
theorem any_no {ks : List Nat} {t : Nat} {C' : FE} {U : List Nat} {F : FE} (hk : keysOk ks C' U F = true) (h1 : hasKey C' t = false) (h2 : hasKey (unk U) t = false) (hF : hasKey F t = true) : ks.any (Nat.beq · t) = false := by
  cases hq : ks.any (Nat.beq · t) with
  | false => rfl
  | true =>
    obtain ⟨x, hx, hxt⟩ := List.any_eq_true.1 hq
    have hxt' : x = t := Nat.eq_of_beq_eq_true hxt
    have := List.all_eq_true.1 hk x hx
    rw [hasKey_unk] at h2
    rw [hxt', h1, h2, hF] at this
    cases this
theorem Says.mk {F F2 C C' : FE} {U ks : List Nat} (h : Sub F2 C') (hg : Grow (C ++ (unk U ++ F)) ks F2) (hk : keysOk ks C' U F = true) (hc : C.all (fun p => hasKey C' p.1) = true) : Says F2 (C' ++ (unk U ++ F)) := by
  intro t v hv
  cases h1 : hasKey C' t with
  | true => rw [fget_app_t h1] at hv; exact h.get t v hv
  | false =>
    rw [fget_app_f h1] at hv
    cases h2 : hasKey (unk U) t with
    | true => rw [fget_app_t h2, fget_unk] at hv; cases hv
    | false =>
      rw [fget_app_f h2] at hv
      have h3 : hasKey C t = false := by
        cases hq : hasKey C t with
        | false => rfl
        | true =>
          obtain ⟨p, hp, hpt⟩ := List.any_eq_true.1 hq
          have hpt' : p.1 = t := Nat.eq_of_beq_eq_true hpt
          have := List.all_eq_true.1 hc p hp
          simp only [hpt', h1] at this
          cases this
      rw [hg.get t (any_no hk h1 h2 (fget_key hv)), fget_app_f h3, fget_app_f h2]
      exact hv
/-- a meeting of ways: nothing of C yet -/
theorem Says.meet {F F2 C' : FE} {U ks : List Nat} (h : Sub F2 C') (hg : Grow F ks F2) (hk : keysOk ks C' U F = true) : Says F2 (C' ++ (unk U ++ F)) := by
  intro t v hv
  cases h1 : hasKey C' t with
  | true => rw [fget_app_t h1] at hv; exact h.get t v hv
  | false =>
    rw [fget_app_f h1] at hv
    cases h2 : hasKey (unk U) t with
    | true => rw [fget_app_t h2, fget_unk] at hv; cases hv
    | false =>
      rw [fget_app_f h2] at hv
      rw [hg.get t (any_no hk h1 h2 (fget_key hv))]; exact hv
/-- atoms taken out, one by one -/
inductive Pulls : List SA → List SA → List SA → Prop
  | nil {L : List SA} : Pulls [] L L
  | cons {A : SA} {As L L1 L2 : List SA} : Pull A L L1 → Pulls As L1 L2 → Pulls (A :: As) L L2
theorem Pulls.ent {As L L2 : List SA} (h : Pulls As L L2) : Ent L (As ++ L2) := by
  induction h with
  | nil => exact Ent.refl
  | cons h1 _ ih => exact Ent.cons h1 ih
theorem TC.loopF {ι : Type} (U : List Nat) (I : ι → Prop) (C : ι → FE) (A : ι → List SA) (μ : ι → Nat) (i0 : ι) (h0 : I i0) (hF : Sub F (C i0)) {L0 : List SA} (hL : Pulls (A i0) L L0)
    (round : ∀ i, I i → ∀ F' L', F' = C i ++ (unk U ++ F) → L' = A i ++ L0 → TC P N c F' L' (Exit.then (Lp N I (fun i => C i ++ (unk U ++ F)) (fun i => A i ++ L0) μ (μ i)) Q)) : TC P N (.loop c) F L Q := by
  intro a w ha hw
  refine wp_loop_ghost (fun n a w => ∃ i, μ i = n ∧ I i ∧ Env N (C i ++ (unk U ++ F)) a ∧ St (A i ++ L0) w) (μ i0) ⟨i0, rfl, h0, ha.says (Says.mk0 hF), hL.ent.st hw⟩ ?_
  rintro n a w ⟨i, rfl, hi, ha, hw⟩
  refine wp_mono (round i hi _ _ rfl rfl a w ha hw) ?_
  intro e a' w' hq
  cases e with
  | normal =>
    obtain ⟨j, hj, hm, ha', hw'⟩ := hq
    exact ⟨μ j, hm, j, rfl, hj, ha', hw'⟩
  | exit id => exact hq
  | goto l => exact hq
  | ret => exact hq
  | panic ch => exact hq
  | outgrown => exact hq
theorem TQ.loopF {ι : Type} {U : List Nat} {I : ι → Prop} {C : ι → FE} {A : ι → List SA} {μ : ι → Nat} {m : Nat} {F2 : FE} {L2 L0 : List SA} {C0 : FE} {ks : List Nat} (j : ι) (hj : I j) (hm : μ j < m) (hF : Sub F2 (C j))
    (hg : Grow (C0 ++ (unk U ++ F)) ks F2) (hk : keysOk ks (C j) U F = true) (hc : C0.all (fun p => hasKey (C j) p.1) = true) (hL : Ent L2 (A j ++ L0)) :
    TQ N .normal F2 L2 (Exit.then (Lp N I (fun i => C i ++ (unk U ++ F)) (fun i => A i ++ L0) μ m) Q) := fun _ _ ha hw => ⟨j, hj, hm, ha.says (Says.mk hF hg hk hc), hL.st hw⟩
theorem TC.cutF {ι : Type} (U : List Nat) (I : ι → Prop) (C : ι → FE) (A : ι → List SA) {Ao L0 : List SA} (hL : Pulls Ao L L0) (hx : ∀ L', L' = Ao ++ L0 → TC P N x F L' (Exit.then (Md N I (fun i => C i ++ (unk U ++ F)) (fun i => A i ++ L0)) Q))
    (hy : ∀ j, I j → ∀ F' L', F' = C j ++ (unk U ++ F) → L' = A j ++ L0 → TC P N y F' L' Q) : TC P N (.seq x y) F L Q := fun a w ha hw => by
  refine wp_seq (wp_mono (hx _ rfl a w ha (hL.ent.st hw)) ?_)
  intro e a' w' hq
  cases e with
  | normal => obtain ⟨j, hj, ha', hw'⟩ := hq; exact hy j hj _ _ rfl rfl a' w' ha' hw'
  | exit id => exact hq
  | goto l => exact hq
  | ret => exact hq
  | panic ch => exact hq
  | outgrown => exact hq
theorem TQ.meetF {ι : Type} {U : List Nat} {I : ι → Prop} {C : ι → FE} {A : ι → List SA} {F2 : FE} {L2 L0 : List SA} {ks : List Nat} (j : ι) (hj : I j) (hF : Sub F2 (C j))
    (hg : Grow F ks F2) (hk : keysOk ks (C j) U F = true) (hL : Ent L2 (A j ++ L0)) :
    TQ N .normal F2 L2 (Exit.then (Md N I (fun i => C i ++ (unk U ++ F)) (fun i => A i ++ L0)) Q) := fun _ _ ha hw => ⟨j, hj, ha.says (Says.meet hF hg hk), hL.st hw⟩

/-! ### operations in the text's order -/
section
variable {ops : Array Oper} {o : Oper} {rest : List Oper} {As' : List SA}
theorem TL.nil (h : TQ N .normal F L Q) : TL P N ops [] F L Q := h
theorem TL.val {d : Nat} {v : Value} (hg : o.guard = none) (hd : o.dst = some d) (hN : Nat.blt d N = true) (h : Yld P N o F L v) (k : TL P N ops rest ((d, some v) :: F) L Q) : TL P N ops (o :: rest) F L Q := by
  intro a w ha hw
  refine wpList_plain hg fun K hK => ?_
  unfold Oper.wp
  rw [h a w ha hw.holds, Oper.upon_value]
  have := hK _ _ (k _ w (ha.put hN v) hw)
  rwa [hd]
theorem TL.eff {R : Value → List SA → Prop} (hg : o.guard = none) {d : Nat} (hd : o.dst = some d) (hN : Nat.blt d N = true) (h : Eff P N o F L R) (k : ∀ v L', R v L' → TL P N ops rest ((d, some v) :: F) L' Q) : TL P N ops (o :: rest) F L Q := by
  intro a w ha hw
  refine wpList_plain hg fun K hK => ?_
  refine h a w ha hw K Q fun v L' w' hR hw' => hK _ _ (k v L' hR _ w' ?_ hw')
  rw [hd]; exact ha.put hN v
theorem TL.eff0 {R : Value → List SA → Prop} (hg : o.guard = none) (hd : o.dst = none) (h : Eff P N o F L R) (k : ∀ v L', R v L' → TL P N ops rest F L' Q) : TL P N ops (o :: rest) F L Q := by
  intro a w ha hw
  refine wpList_plain hg fun K hK => ?_
  refine h a w ha hw K Q fun v L' w' hR hw' => hK _ _ (k v L' hR _ w' ?_ hw')
  rw [hd]; exact ha
/-- is a guarded operation wanted? -/
def wantF (ops : Array Oper) (F : FE) (o : Oper) : Option Bool :=
  match o.guard with
  | none => some true
  | some (j, want) => match (ops[j]?).bind (·.dst) with
    | some t => match fget F t with
      | some (.bool b) => some (b == want)
      | _ => none
    | none => none
theorem Env.wanted {a : Act} (ha : Env N F a) {b : Bool} (h : wantF ops F o = some b) : Region.wanted o (yielded ops a.tmps) = b := by
  unfold wantF at h
  unfold Region.wanted
  split at h
  · rename_i hg; simp at h; subst h; simp [hg]
  · rename_i j want hg
    simp only [hg]
    split at h
    · rename_i t ht
      split at h
      · rename_i c hc
        have := ha.get t _ hc
        simp at h; subst h
        have hsome : a.tmps[t]? = some (.bool c) := by
          rw [Array.getD_eq_getD_getElem?] at this
          cases hq : a.tmps[t]? with
          | none => rw [hq] at this; simp [undef] at this
          | some u => rw [hq] at this; simp at this; rw [this]
        have : yielded ops a.tmps j = some c := by
          unfold yielded
          simp [ht, hsome]
        rw [this]
        cases c <;> cases want <;> rfl
      · cases h
    · cases h
theorem TL.valG {d : Nat} {v : Value} (hg : wantF ops F o = some true) (hd : o.dst = some d) (hN : Nat.blt d N = true) (h : Yld P N o F L v) (k : TL P N ops rest ((d, some v) :: F) L Q) : TL P N ops (o :: rest) F L Q := by
  intro a w ha hw
  refine wpList_step fun K hK => ?_
  rw [if_pos (ha.wanted hg)]
  unfold Oper.wp
  rw [h a w ha hw.holds, Oper.upon_value]
  have := hK _ _ (k _ w (ha.put hN v) hw)
  rwa [hd]
theorem TL.not {d : Nat} (hg : wantF ops F o = some false) (hd : o.dst = some d) (hN : Nat.blt d N = true) (k : TL P N ops rest ((d, some undef) :: F) L Q) : TL P N ops (o :: rest) F L Q := by
  intro a w ha hw
  refine wpList_step fun K hK => ?_
  rw [if_neg (by rw [ha.wanted hg]; simp)]
  have := hK _ _ (k _ w (ha.put hN undef) hw)
  rwa [hd]
theorem TL.effG {R : Value → List SA → Prop} (hg : wantF ops F o = some true) {d : Nat} (hd : o.dst = some d) (hN : Nat.blt d N = true) (h : Eff P N o F L R) (k : ∀ v L', R v L' → TL P N ops rest ((d, some v) :: F) L' Q) : TL P N ops (o :: rest) F L Q := by
  intro a w ha hw
  refine wpList_step fun K hK => ?_
  rw [if_pos (ha.wanted hg)]
  refine h a w ha hw K Q fun v L' w' hR hw' => hK _ _ (k v L' hR _ w' ?_ hw')
  rw [hd]; exact ha.put hN v

/-! ### operations in any order -/
variable {fuel : Nat} {listed : Array Bool}
theorem TA.take (i : Nat) {last d : Nat} {v : Value} (hi : ops[i]? = some o) (hd : o.dst = some d) (hN : Nat.blt d N = true) (hg : wantF ops F o = some true)
    (hs : Region.noSelect ops = true) (hf : Region.free .any ops listed i = true) (hr : (Region.ready .any ops listed).contains i = true) (hl : Nat.beq i last = false) (hw : waits ops last i = true) (hll : listed.getD last false = false)
    (hQ : ∀ c a w, Q (.panic c) (a.put o.dst v) w → Q (.panic c) a w) (h : Yld P N o F As v)
    (k : TA P N ops last As fuel (listed.setIfInBounds i true) ((d, some v) :: F) L Q) : TA P N ops last As (fuel + 1) listed F L Q := by
  intro a w ha hw' hX
  refine wpAnyX_first (S := Holds As) hi (Region.noSelect_spec hs) hQ (Nat.ne_of_beq_eq_false hl) (.inr ⟨fun _ h => h, hw⟩) fuel listed a w (Region.free_spec hi hf) (by simpa using hr) (.inl ⟨ha.wanted hg, fun w hS => h a w ha hS⟩) hX (.inr hll) ?_
  rw [hd]
  refine k _ w (ha.put hN v) hw' fun h2 => hX ?_
  rw [getD_set_ne false (Nat.ne_of_beq_eq_false hl)] at h2; exact h2
/-- what needs no memory -/
theorem TA.takeP (i : Nat) {last d : Nat} {v : Value} (hi : ops[i]? = some o) (hd : o.dst = some d) (hN : Nat.blt d N = true) (hg : wantF ops F o = some true)
    (hs : Region.noSelect ops = true) (hf : Region.free .any ops listed i = true) (hr : (Region.ready .any ops listed).contains i = true) (hl : Nat.beq i last = false)
    (hQ : ∀ c a w, Q (.panic c) (a.put o.dst v) w → Q (.panic c) a w) (h : Yld P N o F [] v)
    (k : TA P N ops last As fuel (listed.setIfInBounds i true) ((d, some v) :: F) L Q) : TA P N ops last As (fuel + 1) listed F L Q := by
  intro a w ha hw' hX
  refine wpAnyX_first (S := fun _ => True) hi (Region.noSelect_spec hs) hQ (Nat.ne_of_beq_eq_false hl) (.inl fun _ => trivial) fuel listed a w (Region.free_spec hi hf) (by simpa using hr) (.inl ⟨ha.wanted hg, fun w hS => h a w ha (fun A hA => by cases hA)⟩) hX (.inl fun _ => trivial) ?_
  rw [hd]
  refine k _ w (ha.put hN v) hw' fun h2 => hX ?_
  rw [getD_set_ne false (Nat.ne_of_beq_eq_false hl)] at h2; exact h2
theorem TA.not (i : Nat) {last d : Nat} (hi : ops[i]? = some o) (hd : o.dst = some d) (hN : Nat.blt d N = true) (hg : wantF ops F o = some false)
    (hs : Region.noSelect ops = true) (hf : Region.free .any ops listed i = true) (hr : (Region.ready .any ops listed).contains i = true) (hl : Nat.beq i last = false)
    (hQ : ∀ c a w, Q (.panic c) (a.put o.dst undef) w → Q (.panic c) a w)
    (k : TA P N ops last As fuel (listed.setIfInBounds i true) ((d, some undef) :: F) L Q) : TA P N ops last As (fuel + 1) listed F L Q := by
  intro a w ha hw' hX
  refine wpAnyX_first (S := fun _ => True) hi (Region.noSelect_spec hs) hQ (Nat.ne_of_beq_eq_false hl) (.inl fun _ => trivial) fuel listed a w (Region.free_spec hi hf) (by simpa using hr) (.inr ⟨ha.wanted hg, rfl⟩) hX (.inl fun _ => trivial) ?_
  rw [hd]
  refine k _ w (ha.put hN undef) hw' fun h2 => hX ?_
  rw [getD_set_ne false (Nat.ne_of_beq_eq_false hl)] at h2; exact h2
theorem wpAnyX_all {last : Nat} {rs : List Nat} {a : Act} {w : World} (hr : Region.ready .any ops listed = rs) (hne : rs ≠ [])
    (h : ∀ i ∈ rs, wpOp P ops Q i (fun a' w' => Sx last As (listed.setIfInBounds i true) w' ∧ wpAnyX P ops Q last As fuel (listed.setIfInBounds i true) a' w') a w) : wpAnyX P ops Q last As (fuel + 1) listed a w :=
  ⟨fun h0 => absurd (hr ▸ h0) hne, hr ▸ h⟩
/-- several may come up -/
def TAo (P : Program) (N : Nat) (ops : Array Oper) (last : Nat) (As : List SA) (fuel : Nat) (listed : Array Bool) (F : FE) (L : List SA) (Q : Exit → Act → World → Prop) (i : Nat) : Prop :=
  ∀ a w, Env N F a → St L w → Sx last As listed w → wpOp P ops Q i (fun a' w' => Sx last As (listed.setIfInBounds i true) w' ∧ wpAnyX P ops Q last As fuel (listed.setIfInBounds i true) a' w') a w
theorem TA.any {last : Nat} {rs : List Nat} (hr : Region.ready .any ops listed = rs) (hne : rs ≠ []) (h : ∀ i ∈ rs, TAo P N ops last As fuel listed F L Q i) : TA P N ops last As (fuel + 1) listed F L Q :=
  fun a w ha hw hS => wpAnyX_all hr hne fun i hi => h i hi a w ha hw hS
/-- what is held is held still -/
def Keeps (last i : Nat) (listed : Array Bool) (As L' : List SA) : Prop := (listed.setIfInBounds i true).getD last false = true ∨ ∀ w, Holds L' w → Holds As w
theorem Keeps.sx {last i : Nat} {L' : List SA} {w : World} (h : Keeps last i listed As L') (hw : St L' w) : Sx last As (listed.setIfInBounds i true) w := fun h2 => by
  rcases h with h | h
  · rw [h] at h2; cases h2
  · exact h _ hw.holds
theorem TAo.eff {last i : Nat} {d : Nat} {R : Value → List SA → Prop} (hi : ops[i]? = some o) (hd : o.dst = some d) (hN : Nat.blt d N = true) (hg : wantF ops F o = some true)
    (h : Eff P N o F L R) (k : ∀ v L', R v L' → Keeps last i listed As L' ∧ TA P N ops last As fuel (listed.setIfInBounds i true) ((d, some v) :: F) L' Q) : TAo P N ops last As fuel listed F L Q i := by
  intro a w ha hw hS
  refine wpOp_step hi fun K hK => ?_
  rw [if_pos (ha.wanted hg)]
  refine h a w ha hw K Q fun v L' w' hR hw' => hK _ _ ?_
  obtain ⟨k1, k2⟩ := k v L' hR
  refine ⟨k1.sx hw', k2 _ w' ?_ hw' (k1.sx hw')⟩
  rw [hd]; exact ha.put hN v
theorem TAo.eff0 {last i : Nat} {R : Value → List SA → Prop} (hi : ops[i]? = some o) (hd : o.dst = none) (hg : wantF ops F o = some true)
    (h : Eff P N o F L R) (k : ∀ v L', R v L' → Keeps last i listed As L' ∧ TA P N ops last As fuel (listed.setIfInBounds i true) F L' Q) : TAo P N ops last As fuel listed F L Q i := by
  intro a w ha hw hS
  refine wpOp_step hi fun K hK => ?_
  rw [if_pos (ha.wanted hg)]
  refine h a w ha hw K Q fun v L' w' hR hw' => hK _ _ ?_
  obtain ⟨k1, k2⟩ := k v L' hR
  refine ⟨k1.sx hw', k2 _ w' ?_ hw' (k1.sx hw')⟩
  rw [hd]; exact ha
/-- one operation alone may come up -/
theorem TA.one (i : Nat) {last d : Nat} {R : Value → List SA → Prop} (hr : Region.ready .any ops listed = [i]) (hi : ops[i]? = some o) (hd : o.dst = some d) (hN : Nat.blt d N = true) (hg : wantF ops F o = some true)
    (h : Eff P N o F L R) (k : ∀ v L', R v L' → Keeps last i listed As L' ∧ TA P N ops last As fuel (listed.setIfInBounds i true) ((d, some v) :: F) L' Q) : TA P N ops last As (fuel + 1) listed F L Q :=
  TA.any hr (by simp) fun j hj => by
    rw [List.mem_singleton] at hj; subst hj
    exact TAo.eff hi hd hN hg h k
theorem TA.one0 (i : Nat) {last : Nat} {R : Value → List SA → Prop} (hr : Region.ready .any ops listed = [i]) (hi : ops[i]? = some o) (hd : o.dst = none) (hg : wantF ops F o = some true)
    (h : Eff P N o F L R) (k : ∀ v L', R v L' → Keeps last i listed As L' ∧ TA P N ops last As fuel (listed.setIfInBounds i true) F L' Q) : TA P N ops last As (fuel + 1) listed F L Q :=
  TA.any hr (by simp) fun j hj => by
    rw [List.mem_singleton] at hj; subst hj
    exact TAo.eff0 hi hd hg h k
/-- a value's operation as an action -/
theorem Eff.val {v : Value} (h : Yld P N o F L v) : Eff P N o F L (fun u L' => u = v ∧ L' = L) := by
  intro a w ha hw K Q hK
  unfold Oper.wp
  rw [h a w ha hw.holds, Oper.upon_value]
  exact hK v L w ⟨rfl, rfl⟩ hw
theorem TA.done {last : Nat} (hr : Region.ready .any ops listed = []) (k : TQ N .normal F L Q) : TA P N ops last As fuel listed F L Q := fun a w ha hw _ => by
  cases fuel with
  | zero => exact ⟨hr, k a w ha hw⟩
  | succ n => exact ⟨fun _ => k a w ha hw, by rw [hr]; simp⟩
end

/-! ### functions -/
theorem Fn.of {f : FuncId} {fn : Func} {args : List Value} {R : Value → List SA → Prop} (hf : P.funcs[f]? = some fn) (hb : fn.body = some c) (hn : args.length + (fn.ntmps - args.length) = N)
    (h : TC P N c (argF 0 args) L (bodyPost P fn (Ret R))) : Fn P f args L R := fun w hw =>
  calls_of_wp hf hb (h _ w (hn ▸ Env.enter args fn.ntmps) hw)
theorem Fn.mono {f : FuncId} {args : List Value} {R R' : Value → List SA → Prop} (h : Fn P f args L R) (hr : ∀ v L', R v L' → ∃ L2, Ent L' L2 ∧ R' v L2) : Fn P f args L R' := fun w hw =>
  (h w hw).mono fun e w' ⟨v, L', he, hR, hw'⟩ => let ⟨L2, h1, h2⟩ := hr v L' hR; ⟨v, L2, he, h2, h1.st hw'⟩
theorem Fn.pre {f : FuncId} {args : List Value} {R : Value → List SA → Prop} (h : Fn P f args L' R) (hL : Ent L L') : Fn P f args L R := fun w hw => h w (hL.st hw)
theorem TQ.ret {fn : Func} {R : Value → List SA → Prop} {v : Value} (hr : ∀ a w, Env N F a → Holds L w → (results fn a.tmps).run P w = .ok v w) (hR : R v L) : TQ N .ret F L (bodyPost P fn (Ret R)) := fun a w ha hw =>
  ⟨ha.defers, v, hr a w ha hw.holds, v, L, rfl, hR, hw⟩
theorem TQ.end' {fn : Func} {R : Value → List SA → Prop} {v : Value} (hr : ∀ a w, Env N F a → Holds L w → (results fn a.tmps).run P w = .ok v w) (hR : R v L) : TQ N .normal F L (bodyPost P fn (Ret R)) := fun a w ha hw =>
  ⟨ha.defers, v, hr a w ha hw.holds, v, L, rfl, hR, hw⟩
theorem res0 {fn : Func} (h : fn.results = #[]) : ∀ a w, Env N F a → Holds L w → (results fn a.tmps).run P w = .ok (.tuple #[]) w := fun a w _ _ => results_none h _ _ _
theorem res1 {fn : Func} {t : Tmp} {v : Value} (h : fn.results = #[.tmp t]) (hv : fget F t = some v) : ∀ a w, Env N F a → Holds L w → (results fn a.tmps).run P w = .ok v w := fun a w ha _ => by
  rw [results_tmp h, ha.get t v hv]
theorem res2 {fn : Func} {t u : Tmp} {v x : Value} (h : fn.results = #[.tmp t, .tmp u]) (hv : fget F t = some v) (hx : fget F u = some x) : ∀ a w, Env N F a → Holds L w → (results fn a.tmps).run P w = .ok (.tuple #[v, x]) w := fun a w ha _ => by
  rw [results_tmp2 h, ha.get t v hv, ha.get u x hx]
end
end Go.Proofs.Ytpddnhjpjmbgfaa
