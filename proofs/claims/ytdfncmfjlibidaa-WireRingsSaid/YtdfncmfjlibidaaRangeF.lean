/- A range over a function whose iterator takes a copy first: the law of the walk, over frames that spare a list of reserved blocks. No program is named. -/
import Derived.Test.YtdfncmfjlibidaaLib
import Derived.RangeFuncNested
import Derived.RangeFuncCalls
import Derived.RangeFuncLeaves
namespace Go.Proofs.Ytdfncmfjlibidaa
set_option linter.unusedVariables false
open Go.RowKit

/-- The blocks of R lie as they lay. -/
structure Same (R : List Nat) (W W' : World) : Prop where
  size : W.heap.size ≤ W'.heap.size
  same : ∀ k ∈ R, W'.heap[k]? = W.heap[k]?
theorem Same.refl (R : List Nat) (W : World) : Same R W W := ⟨Nat.le_refl _, fun _ _ => rfl⟩
theorem Same.trans {R : List Nat} {A B C : World} (h : Same R A B) (k : Same R B C) : Same R A C := ⟨Nat.le_trans h.size k.size, fun x hx => (k.same x hx).trans (h.same x hx)⟩
theorem Same.of_fr {R S : List Nat} {W W' : World} (h : Fr S W W') (hR : ∀ k ∈ R, k < W.heap.size ∧ k ∉ S) : Same R W W' := ⟨h.size, fun k hk => h.block k (hR k hk).1 (hR k hk).2⟩
theorem Same.mono {R R' : List Nat} {W W' : World} (h : Same R W W') (hs : ∀ k ∈ R', k ∈ R) : Same R' W W' := ⟨h.size, fun k hk => h.same k (hs k hk)⟩

theorem Own.same {w w' : World} {e : TypeId} {sz : Nat} {v : Value} {n : Nat} {cs : List Value} (h : Own w e sz v n cs) (hs : Same (own v) w w') : Own w' e sz v n cs := by
  refine ⟨h.len, h.one, ?_⟩
  rcases h.val with hn | ⟨g, off, cap, arr, rfl, hb, r⟩
  · exact .inl hn
  · exact .inr ⟨g, off, cap, arr, rfl, (hs.same g (by simp [own])).trans hb, r⟩

theorem Fr.putObj {S : List Nat} {a b : World} (h : Fr S a b) {l : Nat} (o : Obj) (hl : l ∈ S ∨ a.heap.size ≤ l) : Fr S a (b.putObj l o) :=
  ⟨h.os, h.tape, h.output, by have := h.size; simp; omega, fun x hx hn => (World.putObj_heap_other (by
    intro e; subst e
    rcases hl with hl | hl
    · exact hn hl
    · omega)).trans (h.block x hx hn)⟩

/-- AN ITERATOR's CONTRACT: called with yield in whatever later world, it hands N rounds their arguments, one by one; it needs that its own blocks R (new ones) are spared. -/
def IterC (P : Program) (gf : Nat) (lb : Array Value) (N : Nat) (arg : Nat → Array Value) (W0 : World) : Prop :=
  ∀ (n L : Nat) (W : World) (J Jx : Nat → List Nat → World → Prop), Fr [] W0 W →
    (∀ W1 R, Fr [] W W1 → (∀ k ∈ R, W.heap.size ≤ k ∧ k < W1.heap.size) → J 0 R W1) →
    (∀ R i W1, i < N → J i R W1 → YieldAt Fence.wide (n - 1) P L (arg i) W1 fun e W' => (e = .returned (.bool true) ∧ J (i + 1) R W' ∧ Same R W1 W') ∨ (e = .returned (.bool false) ∧ Jx (i + 1) R W')) →
    CallsIn Fence.wide n P gf (#[.func (.yield L) #[] #[]] ++ lb) W fun e W' => (∃ v, e = .returned v) ∧ ∃ R, J N R W' ∨ ∃ i, 1 ≤ i ∧ i ≤ N ∧ Jx i R W'

/-- How a round's body may be left. -/
def resPost (R : List Nat) (I : Nat → List Nat → World → Prop) (Ix : Code → Nat → List Nat → World → Prop) (i : Nat) (W : World) : Exit → Act → World → Prop
  | .normal, _, W' => Same R W W' ∧ I i R W'
  | .ret, _, W' => Same R W W' ∧ Ix .ret i R W'
  | .exit id, _, W' => Same R W W' ∧ Ix (.exit id) i R W'
  | .goto t, _, W' => Same R W W' ∧ Ix (.goto t) i R W'
  | .panic _, _, _ => False
  | .outgrown, _, _ => False

theorem range_res {P : Program} {g : Operand} {ps : Array Tmp} {assign body : Code} {Q : Exit → Act → World → Prop} {a : Act} {w : World} (n : Nat)
    {gf : Nat} {lb : Array Value} (hg : a.eval g = .func (.func gf) #[] lb) (eg : ∀ args w, (callFunc gf args).run P w = .ok (.enter gf args) w)
    {N : Nat} {arg : Nat → Array Value} (hit : IterC P gf lb N arg w) (hps : ∀ i, (arg i).size = ps.size)
    (I : Nat → List Nat → World → Prop) (Ix : Code → Nat → List Nat → World → Prop)
    (h0 : ∀ W R, Fr [] w W → (∀ k ∈ R, w.heap.size ≤ k ∧ k < W.heap.size) → I 0 R W)
    (hst : ∀ i R W W', I i R W → Fr R W W' → I i R W') (hstx : ∀ c i R W W', Ix c i R W → Fr R W W' → Ix c i R W')
    (hround : ∀ (l : Nat) (R : List Nat) (i : Nat) (W0 W : World), i < N → I i R W → (∀ k ∈ R, w.heap.size ≤ k ∧ k < W.heap.size) →
      assign.wpIn (Fence.wide.inRound l) (n - 1 - 1) P (Exit.then (fun a₁ W1 => W1 = W0 ∧ body.wpIn (Fence.wide.inRound l) (n - 1 - 1) P (resPost R I Ix (i + 1) W) a₁ W) (fun _ _ _ => False))
        { tmps := (ps.zip (arg i)).foldl (fun t (p, v) => t.setIfInBounds p v) a.tmps, defers := [] } W0)
    (hdone : ∀ (D : Nat) (R : List Nat) (W : World), w.heap.size ≤ D → D ∈ R → I N R W → W.heap[D]? = some (.deferred (some [])) → Q .normal { a with defers := { target := .collected D, args := #[] } :: a.defers } W)
    (hstop : ∀ (D : Nat) (R : List Nat) (c : Code) (i : Nat) (W : World), w.heap.size ≤ D → D ∈ R → 1 ≤ i → i ≤ N → Ix c i R W → W.heap[D]? = some (.deferred (some [])) → c.wpIn Fence.wide n P Q { a with defers := { target := .collected D, args := #[] } :: a.defers } W) :
    (Code.rangeFunc g ps assign body).wpIn Fence.wide n P Q a w := by
  refine wpIn_rangeFunc ?_
  intro fn hfn
  obtain ⟨rec, hrec⟩ : ∃ rec : LoopState → Option Code → Loop, rec = fun st pe => { state := st, pending := pe, fn, tmps := a.tmps, params := ps, assign, body, defers := w.heap.size } := ⟨_, rfl⟩
  obtain ⟨W1, hW1⟩ : ∃ W1, (w.alloc (.deferred (some []))).alloc (.loop (rec .ready none)) = W1 := ⟨_, rfl⟩
  have hL1 : W1.heap[w.heap.size + 1]? = some (.loop (rec .ready none)) := by
    rw [← hW1]; have := World.alloc_heap_new (w.alloc (.deferred (some []))) (.loop (rec .ready none)); rwa [World.size_alloc] at this
  have hK1 : W1.heap[w.heap.size]? = some (.deferred (some [])) := by
    rw [← hW1]; exact (Below.heap_alloc _ _ _ (by simp)).trans (World.alloc_heap_new w _)
  have hF1 : Fr [] w W1 := by rw [← hW1]; exact ((Fr.refl _ _).alloc _).alloc _
  have hS1 : W1.heap.size = w.heap.size + 2 := by rw [← hW1]; simp
  refine ⟨w.heap.size + 1, [{ target := .collected w.heap.size, args := #[] }], W1, { target := .fn (.func gf) lb, args := #[.func (.yield (w.heap.size + 1)) #[] #[]] }, W1, gf,
    #[.func (.yield (w.heap.size + 1)) #[] #[]] ++ lb, W1, ?_, ?_, ?_, ?_, fun h => by simp [Fence.wide] at h, ?_⟩
  · rw [← hW1, hrec]; exact run_enterLoop_outer _ _ _ _ _
  · simp only [resolve, hg]
    simp [go_sem]
  · intro f' _; trivial
  · simp [invoke, go_sem, eg]
  · -- the reserved blocks: the record, the deferred calls' block, the iterator's own
    refine (hit (n - 1) (w.heap.size + 1) W1
      (fun i R W => I i ((w.heap.size + 1) :: w.heap.size :: R) W ∧ W.heap[w.heap.size + 1]? = some (.loop (rec .ready none)) ∧ W.heap[w.heap.size]? = some (.deferred (some [])) ∧ (∀ k ∈ R, W1.heap.size ≤ k ∧ k < W.heap.size))
      (fun i R W => ∃ c, Ix c i ((w.heap.size + 1) :: w.heap.size :: R) W ∧ W.heap[w.heap.size + 1]? = some (.loop (rec .done (some c))) ∧ W.heap[w.heap.size]? = some (.deferred (some [])))
      hF1 ?_ ?_).mono ?_
    · intro W2 R hf hR
      refine ⟨h0 _ _ (hF1.trans hf (by simp)) ?_, (hf.block _ (by omega) (by simp)).trans hL1, (hf.block _ (by omega) (by simp)).trans hK1, hR⟩
      intro k hk
      have := hf.size
      simp only [List.mem_cons] at hk
      rcases hk with rfl | rfl | hk
      · omega
      · omega
      · have := hR k hk; omega
    · -- ONE ROUND
      rintro R i W hi ⟨hI, hl, hk, hR⟩
      have hlt : w.heap.size + 1 < W.heap.size := (Array.getElem?_eq_some_iff.1 hl).1
      have hy := run_yield (P := P) (args := arg i) hl (by rw [hrec]; simp [hps])
      rw [hrec] at hy
      have hl2 : (W.putObj (w.heap.size + 1) (.loop { rec .ready none with state := .busy })).heap[w.heap.size + 1]? = some (.loop { rec .ready none with state := .busy }) := World.putObj_heap_same hlt
      have hk2 : (W.putObj (w.heap.size + 1) (.loop { rec .ready none with state := .busy })).heap[w.heap.size]? = some (.deferred (some [])) := (World.putObj_heap_other (by omega)).trans hk
      have hI2 : I i ((w.heap.size + 1) :: w.heap.size :: R) (W.putObj (w.heap.size + 1) (.loop { rec .ready none with state := .busy })) := hst _ _ _ _ hI ((Fr.refl _ _).putObj _ (.inl (by simp)))
      have hRlt : ∀ k ∈ (w.heap.size + 1) :: w.heap.size :: R, w.heap.size ≤ k ∧ k < (W.putObj (w.heap.size + 1) (.loop { rec .ready none with state := .busy })).heap.size := by
        intro k hk
        rw [World.putObj_size]
        simp only [List.mem_cons] at hk
        rcases hk with rfl | rfl | hk
        · omega
        · omega
        · have := hR k hk; omega
      refine ⟨fn, _, assign, body, hy, roundIn_of_wpIn hfn (wpIn_mono (hround _ ((w.heap.size + 1) :: w.heap.size :: R) i W _ hi hI2 hRlt) ?_)⟩
      rintro e a3 W3 hp
      cases e with
      | ret => exact hp
      | exit _ => exact hp
      | goto _ => exact hp
      | panic _ => exact hp
      | outgrown => exact hp
      | normal =>
      obtain ⟨e3, hp⟩ := hp
      show ∃ w₂, (Instr.beginRound (w.heap.size + 1)).run P W3 = .ok () w₂ ∧ _
      rw [e3]
      refine ⟨_, run_beginRound hl (by rw [hrec]), wpIn_mono hp ?_⟩
      clear hp
      have hRW : ∀ k ∈ R, k ≠ w.heap.size + 1 := fun k hk e => by have := hR k hk; omega
      have fin : ∀ (jump : Option Code) (W3 : World), Same ((w.heap.size + 1) :: w.heap.size :: R) (W.putObj (w.heap.size + 1) (.loop { rec .ready none with state := .busy })) W3 →
          (Instr.endRound (w.heap.size + 1) jump).run P W3 = .ok (.bool jump.isNone) (W3.putObj (w.heap.size + 1) (.loop (rec (if jump.isNone then .ready else .done) jump))) ∧
          (W3.putObj (w.heap.size + 1) (.loop (rec (if jump.isNone then .ready else .done) jump))).heap[w.heap.size + 1]? = some (.loop (rec (if jump.isNone then .ready else .done) jump)) ∧
          (W3.putObj (w.heap.size + 1) (.loop (rec (if jump.isNone then .ready else .done) jump))).heap[w.heap.size]? = some (.deferred (some [])) ∧
          Same R W (W3.putObj (w.heap.size + 1) (.loop (rec (if jump.isNone then .ready else .done) jump))) ∧ (∀ k ∈ R, W1.heap.size ≤ k ∧ k < (W3.putObj (w.heap.size + 1) (.loop (rec (if jump.isNone then .ready else .done) jump))).heap.size) := fun jump W3 hk3 => by
        have hl3 := (hk3.same (w.heap.size + 1) (by simp)).trans hl2
        have hsz := hk3.size
        rw [World.putObj_size] at hsz
        have := run_endRound (P := P) jump hl3
        rw [hrec] at this ⊢
        refine ⟨this, World.putObj_heap_same (Array.getElem?_eq_some_iff.1 hl3).1, (World.putObj_heap_other (by omega)).trans ((hk3.same _ (by simp)).trans hk2), ⟨by rw [World.putObj_size]; exact hsz, fun k hk => ?_⟩, fun k hk => ?_⟩
        · rw [World.putObj_heap_other (hRW k hk), hk3.same k (by simp [hk]), World.putObj_heap_other (hRW k hk)]
        · have := hR k hk
          rw [World.putObj_size]
          omega
      rintro e a3 W3 hp
      cases e with
      | normal =>
        obtain ⟨hk3, hi3⟩ := hp
        obtain ⟨hr, hl4, hk4, hs4, hR4⟩ := fin none W3 hk3
        exact ⟨_, _, hr, .inl ⟨rfl, ⟨hst _ _ _ _ hi3 ((Fr.refl _ _).putObj _ (.inl (by simp))), hl4, hk4, hR4⟩, hs4⟩⟩
      | ret =>
        obtain ⟨hk3, hi3⟩ := hp
        obtain ⟨hr, hl4, hk4, hs4, hR4⟩ := fin (some .ret) W3 hk3
        exact ⟨_, _, hr, .inr ⟨rfl, .ret, hstx _ _ _ _ _ hi3 ((Fr.refl _ _).putObj _ (.inl (by simp))), hl4, hk4⟩⟩
      | exit id =>
        obtain ⟨hk3, hi3⟩ := hp
        obtain ⟨hr, hl4, hk4, hs4, hR4⟩ := fin (some (.exit id)) W3 hk3
        exact ⟨_, _, hr, .inr ⟨rfl, .exit id, hstx _ _ _ _ _ hi3 ((Fr.refl _ _).putObj _ (.inl (by simp))), hl4, hk4⟩⟩
      | goto t =>
        obtain ⟨hk3, hi3⟩ := hp
        obtain ⟨hr, hl4, hk4, hs4, hR4⟩ := fin (some (.goto t)) W3 hk3
        exact ⟨_, _, hr, .inr ⟨rfl, .goto t, hstx _ _ _ _ _ hi3 ((Fr.refl _ _).putObj _ (.inl (by simp))), hl4, hk4⟩⟩
      | panic ch => exact hp.elim
      | outgrown => exact hp.elim
    · -- BEHIND THE ITERATOR
      rintro e W2 ⟨⟨v, rfl⟩, R, (⟨hi, hl, hk, _⟩ | ⟨i, h1, hiN, c, hi, hl, hk⟩)⟩
      · exact ⟨none, _, by have := run_endLoop (P := P) hl (by rw [hrec]; simp); rw [hrec] at this; exact this, hdone _ _ _ (Nat.le_refl _) (by simp) (hst _ _ _ _ hi ((Fr.refl _ _).putObj _ (.inl (by simp)))) ((World.putObj_heap_other (by omega)).trans hk)⟩
      · exact ⟨some c, _, by have := run_endLoop (P := P) hl (by rw [hrec]; simp); rw [hrec] at this; exact this, hstop _ _ c i _ (Nat.le_refl _) (by simp) h1 hiN (hstx _ _ _ _ _ hi ((Fr.refl _ _).putObj _ (.inl (by simp)))) ((World.putObj_heap_other (by omega)).trans hk)⟩

/-- How a body is left: no panic. -/
def markPost (P : Program) (fn : Func) (R : Ending → World → Prop) : Exit → Act → World → Prop
  | .normal, a, w | .ret, a, w => LeavesInM Fence.wide 3 P fn a.tmps R a.defers .returning w
  | _, _, _ => False
/-- A function whose body holds a range over a function, by the plain walk. -/
theorem calls_of_wp_marks {P : Program} {f : FuncId} {fn : Func} {c : Code} {args : Array Value} {w : World} {R : Ending → World → Prop} (hf : P.funcs[f]? = some fn) (hb : fn.body = some c)
    (h : c.wp P (markPost P fn R) { tmps := args ++ Array.replicate (fn.ntmps - args.size) undef, defers := [] } w) : Calls P f args w R :=
  callsIn_wide.1 (callsIn_of_wp_marks (F := Fence.wide) (n := 3) hf hb trivial (wpIn_wide.2 (Code.wp_mono (fun e a w q => by cases e <;> first | exact q | exact q.elim) h)))

theorem range_res_wp {P : Program} {g : Operand} {ps : Array Tmp} {assign body : Code} {Q : Exit → Act → World → Prop} {a : Act} {w : World}
    {gf : Nat} {lb : Array Value} (hg : a.eval g = .func (.func gf) #[] lb) (eg : ∀ args w, (callFunc gf args).run P w = .ok (.enter gf args) w)
    {N : Nat} {arg : Nat → Array Value} (hit : IterC P gf lb N arg w) (hps : ∀ i, (arg i).size = ps.size)
    (I : Nat → List Nat → World → Prop) (Ix : Code → Nat → List Nat → World → Prop)
    (h0 : ∀ W R, Fr [] w W → (∀ k ∈ R, w.heap.size ≤ k ∧ k < W.heap.size) → I 0 R W)
    (hst : ∀ i R W W', I i R W → Fr R W W' → I i R W') (hstx : ∀ c i R W W', Ix c i R W → Fr R W W' → Ix c i R W')
    (hround : ∀ (l : Nat) (R : List Nat) (i : Nat) (W0 W : World), i < N → I i R W → (∀ k ∈ R, w.heap.size ≤ k ∧ k < W.heap.size) →
      assign.wpIn (Fence.wide.inRound l) 1 P (Exit.then (fun a₁ W1 => W1 = W0 ∧ body.wpIn (Fence.wide.inRound l) 1 P (resPost R I Ix (i + 1) W) a₁ W) (fun _ _ _ => False))
        { tmps := (ps.zip (arg i)).foldl (fun t (p, v) => t.setIfInBounds p v) a.tmps, defers := [] } W0)
    (hdone : ∀ (D : Nat) (R : List Nat) (W : World), w.heap.size ≤ D → D ∈ R → I N R W → W.heap[D]? = some (.deferred (some [])) → Q .normal { a with defers := { target := .collected D, args := #[] } :: a.defers } W)
    (hstop : ∀ (D : Nat) (R : List Nat) (c : Code) (i : Nat) (W : World), w.heap.size ≤ D → D ∈ R → 1 ≤ i → i ≤ N → Ix c i R W → W.heap[D]? = some (.deferred (some [])) → c.wp P Q { a with defers := { target := .collected D, args := #[] } :: a.defers } W) :
    (Code.rangeFunc g ps assign body).wp P Q a w :=
  wpIn_wide.1 (range_res 3 hg eg hit hps I Ix h0 hst hstx hround hdone (fun D R c i W h1 h2 h3 h4 h5 h6 => (wpIn_wide (n := 3)).2 (hstop D R c i W h1 h2 h3 h4 h5 h6)))

theorem results_cell1 {P : Program} {fn : Func} {p : Tmp} {ty : TypeId} (h : fn.results = #[.cell p ty]) {tmps : Array Value} {a : Addr} (ht : tmps.getD p undef = .pointer (some a)) (w : World) :
    (results fn tmps).run P w = (loadVar ty a).run P w := by
  simp only [results, h]
  have ht' : tmps[p]?.getD undef = .pointer (some a) := by simpa using ht
  simp [Sem.run_bind, Result.andThen, ht', asAddr]
/-- A function's end behind a range over a function. -/
theorem leaves_one {n : Nat} {P : Program} {fn : Func} {tmps : Array Value} {R : Ending → World → Prop} {D : Nat} {W : World} {v : Value} (hD : W.heap[D]? = some (.deferred (some [])))
    (hr : (results fn tmps).run P (W.putObj D (.deferred none)) = .ok v (W.putObj D (.deferred none))) (hR : R (.returned v) (W.putObj D (.deferred none))) :
    LeavesInM Fence.wide n P fn tmps R [{ target := .collected D, args := #[] }] .returning W :=
  ⟨by simp, .inl ⟨D, _, rfl, run_takeDeferred hD, _, hr, hR⟩⟩
end Go.Proofs.Ytdfncmfjlibidaa
