/- More rules: bools compared, s[:k:m], s[i:k], an owned slice cut. No program is named. -/
import Derived.Test.YtomplpdeeomehaaHEq
import Derived.Test.YtomplpdeeomehaaOpenB
import Derived.Laws.Small
namespace Go.Proofs.Ytomplpdeeomehaa
set_option linter.unusedVariables false
set_option linter.unusedSimpArgs false
open Go.RowKit
section
variable {κ : Ctx} {P : Program} {N : Nat} {F : FE} {As L : List SA} {o : Oper} {x y z u : Operand}
theorem Y.cmpBool {t yt : Nat} {a b : Bool} {neg : Bool} (ho : o.op = .binOp (if neg then .neq else .eql) t x y yt) (hu : P.underlying t = some .bool) (hx : evO F x = some (.bool a)) (hy : evO F y = some (.bool b)) : Yld P N o F As (.bool (if neg then !(a == b) else a == b)) := fun a' w ha _ => by
  unfold execOp; rw [ho]
  replace hx := ha.eval hx
  replace hy := ha.eval hy
  generalize a'.eval = ρ at hx hy ⊢
  cases neg
  · simp [hx, hy, eqGuard, binOp, run_equal_bool _ t a b hu, go_sem]
  · simp [hx, hy, eqGuard, binOp, run_equal_bool _ t a b hu, go_sem]
theorem Y.eqBool {t yt : Nat} {a b : Bool} (ho : o.op = .binOp .eql t x y yt) (hu : P.underlying t = some .bool) (hx : evO F x = some (.bool a)) (hy : evO F y = some (.bool b)) : Yld P N o F As (.bool (a == b)) := Y.cmpBool (neg := false) ho hu hx hy
theorem Y.neBool {t yt : Nat} {a b : Bool} (ho : o.op = .binOp .neq t x y yt) (hu : P.underlying t = some .bool) (hx : evO F x = some (.bool a)) (hy : evO F y = some (.bool b)) : Yld P N o F As (.bool (!(a == b))) := Y.cmpBool (neg := true) ho hu hx hy
/-- s[:k:m] -/
theorem Y.sliceMax {t e sz n cap k m : Nat} {a : Option Addr} (ho : o.op = .slice t x none (some y) (some z)) (hu : P.underlying t = some (.slice e)) (hs : (P.info? e).map (·.size) = some sz) (hx : evO F x = some (.slice a n cap)) (hy : evO F y = some (vN k)) (hz : evO F z = some (vN m)) (hk : k ≤ m) (hm : m ≤ cap) : Yld P N o F As (.slice a k m) := fun a' w ha hw => by
  unfold execOp; rw [ho]
  replace hx := ha.eval hx
  replace hy := ha.eval hy
  replace hz := ha.eval hz
  generalize a'.eval = ρ at hx hy hz ⊢
  obtain ⟨inf, hinf, he⟩ := Option.map_eq_some_iff.1 hs
  subst he
  have e0 : a.map (fun q => q.add 0) = a := by cases a <;> simp [Addr.add]
  simp [hx, hy, hz, Instr.sliceAt, Instr.slice, Instr.sliceBounds, Instr.sliceBound, asIntOf, run_underlying hu, sizeOf, typeInfo, hinf, go_sem, hk, hm, e0]
/-- s[k:h] -/
theorem Y.sliceLH {t e sz n cap k h : Nat} {a : Option Addr} (ho : o.op = .slice t x (some y) (some z) none) (hu : P.underlying t = some (.slice e)) (hs : (P.info? e).map (·.size) = some sz) (hx : evO F x = some (.slice a n cap)) (hy : evO F y = some (vN k)) (hz : evO F z = some (vN h)) (hk : k ≤ h) (hm : h ≤ cap) : Yld P N o F As (cutV a cap k h sz) := fun a' w ha hw => by
  unfold execOp; rw [ho]
  replace hx := ha.eval hx
  replace hy := ha.eval hy
  replace hz := ha.eval hz
  generalize a'.eval = ρ at hx hy hz ⊢
  obtain ⟨inf, hinf, he⟩ := Option.map_eq_some_iff.1 hs
  subst he
  simp [hx, hy, hz, Instr.sliceAt, Instr.slice, Instr.sliceBounds, Instr.sliceBound, asIntOf, run_underlying hu, sizeOf, typeInfo, hinf, go_sem, hk, hm, cutV]
theorem wpAnyX_mono {ops : Array Oper} {Q : Exit → Act → World → Prop} {last : Nat} {As' : List SA} (hm : ∀ w, Holds As' w → Holds As w) : ∀ (fuel : Nat) (listed : Array Bool) (a : Act) (w : World), wpAnyX P ops Q last As' fuel listed a w → wpAnyX P ops Q last As fuel listed a w
  | 0, _, _, _, h => h
  | fuel + 1, _, _, _, h => ⟨h.1, fun i hi => wpOp_mono (fun a' w' h' => ⟨fun h2 => hm _ (h'.1 h2), wpAnyX_mono hm fuel _ a' w' h'.2⟩) (h.2 i hi)⟩
/-- from here on A is held too -/
theorem TA.more {ops : Array Oper} {Q : Exit → Act → World → Prop} {last fuel : Nat} {listed : Array Bool} {A : SA} (hin : In A L) (k : TA κ P N ops last (A :: As) fuel listed F L Q) : TA κ P N ops last As fuel listed F L Q := fun ds a w ha hd hw hS =>
  wpAnyX_mono (fun w h B hB => h B (In.there hB)) fuel listed a w (k ds a w ha hd hw fun h2 B hB => by
    cases hB with
    | here => exact hw.tl.holds _ hin
    | there hB => exact hS h2 B hB)
/-- an array variable's bytes, appended -/
theorem Src.blk8 {b t tx e' n : Nat} {l : List UInt8} (hk : P.underlying tx = some (.slice e')) (h : In (SA.blk b (l.map v8).toArray t) As) (hn : l.length = n) (hm : n ≤ maxLen) : ∀ w, Holds As w → Src P 1 tx (.slice (some ⟨b, 0, none⟩) n n) n (l.map v8) w := fun w hw => by
  obtain ⟨O, R, h1⟩ := hw _ h
  exact (Rd.ofBlk (sz := 1) (l := l.map v8) h1.2 (by simp [hn]) one8 (Nat.le_refl _) hm (fun j u hj => by simpa using hj)).src hk
theorem Ent.takeOwn3 {e sz n cap k m : Nat} {a : Option Addr} {cs : List Value} (hk : k ≤ n) (hkm : k ≤ m) (hm : m ≤ cap) : Ent (SA.owns e sz (.slice a n cap) n cs :: L) (SA.owns e sz (.slice a k m) k (cs.take (k * sz)) :: L) := Ent.imp fun w O R h => by
  refine ⟨O, R, ⟨fun q hq => h.1 q (by cases a with | none => exact hq | some b => exact hq), ?_⟩, fun _ h => h, fun _ h => .inr h⟩
  have h2 := h.2.take hk
  refine ⟨h2.len, h2.one, ?_⟩
  rcases h.2.val with ⟨hv, h0⟩ | ⟨g, off, c, arr, hv, hb, h1, h3, h4, h5⟩
  · cases hv; left; exact ⟨by rw [show k = 0 by omega, show m = 0 by omega], by omega⟩
  · cases hv
    have hms : m * sz ≤ cap * sz := Nat.mul_le_mul_right _ hm
    have hks : k * sz ≤ n * sz := Nat.mul_le_mul_right _ hk
    exact .inr ⟨g, off, m, arr, rfl, hb, hkm, by omega, by omega, by rw [← h5, List.take_take, Nat.min_eq_left hks]⟩
theorem Ent.takeOwn {e sz n cap k : Nat} {a : Option Addr} {cs : List Value} (hk : k ≤ n) (hc : k ≤ cap) : Ent (SA.owns e sz (.slice a n cap) n cs :: L) (SA.owns e sz (.slice a k cap) k (cs.take (k * sz)) :: L) := Ent.takeOwn3 hk hc (Nat.le_refl _)
/-- an array of bytes among the arguments -/
theorem open_byteArr {H : Type} {enc : TypeId × Value → H} {P : Program} {W : World} {base : Nat} {t e n : Nat} {v : Value} {d : DataW H} {p : List MemPlace} {ts : List TypeId} {ds : List (DataW H)} (j : Nat)
    (o : Value.okWide P W .any base t v) (k : DataW.Trod enc P W 0 (fun _ => true) true t v d p) (hsz : (DataW.weightsEach P ts ds).all (· ≤ reachBytes) = true) (ht : ts[j]? = some t) (hd : ds[j]? = some d)
    (hu : P.underlying t = some (.array n e)) (he : P.underlying e = some (.int .u8)) (hc : P.cellsOf e = 1) (hn : P.cellsOf t = n) :
    ∃ bs : List UInt8, bs.length = n ∧ v = .agg (bs.map v8).toArray := by
  unfold Value.okWide at o
  simp only [hu] at o
  obtain ⟨cs, rfl, _⟩ := o
  obtain ⟨bs, g1, g2⟩ := Opn.byteArr (Opn.top k hsz ht hd) hu he hc hn
  refine ⟨bs, g1, ?_⟩
  simp only [Value.cells] at g2
  rw [← Array.toArray_toList (xs := cs), g2]; rfl
end
end Go.Proofs.Ytomplpdeeomehaa
