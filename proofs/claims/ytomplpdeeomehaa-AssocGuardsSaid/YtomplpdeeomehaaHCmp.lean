/- More rules: comparisons with nil; readable slices cut. No program is named. -/
import Derived.Test.YtomplpdeeomehaaHDat
import Derived.Laws.Cover3
import Derived.Laws.Pointers
namespace Go.Proofs.Ytomplpdeeomehaa
set_option linter.unusedVariables false
set_option linter.unusedSimpArgs false
open Go.RowKit
section
variable {P : Program} {N : Nat} {F : FE} {As L L0 : List SA} {o : Oper} {x y : Operand} {u : Value}
theorem Y.cmpNilS {t yt e n c : Nat} {a : Option Addr} {neg : Bool} (ho : o.op = .binOp (if neg then .neq else .eql) t x y yt) (hu : P.underlying t = some (.slice e)) (hx : evO F x = some (.slice a n c)) (hy : evO F y = some (.slice none 0 0)) : Yld P N o F As (.bool (if neg then !a.isNone else a.isNone)) := fun a' w ha _ => by
  unfold execOp; rw [ho]
  replace hx := ha.eval hx
  replace hy := ha.eval hy
  generalize a'.eval = ρ at hx hy ⊢
  cases neg
  · simp [hx, hy, eqGuard, binOp, run_equal_slice_nil _ t e a n c hu, go_sem]
  · simp [hx, hy, eqGuard, binOp, run_equal_slice_nil _ t e a n c hu, go_sem]
theorem Y.eqNilS {t yt e n c : Nat} {a : Option Addr} (ho : o.op = .binOp .eql t x y yt) (hu : P.underlying t = some (.slice e)) (hx : evO F x = some (.slice a n c)) (hy : evO F y = some (.slice none 0 0)) : Yld P N o F As (.bool a.isNone) := Y.cmpNilS (neg := false) ho hu hx hy
theorem Y.neNilS {t yt e n c : Nat} {a : Option Addr} (ho : o.op = .binOp .neq t x y yt) (hu : P.underlying t = some (.slice e)) (hx : evO F x = some (.slice a n c)) (hy : evO F y = some (.slice none 0 0)) : Yld P N o F As (.bool (!a.isNone)) := Y.cmpNilS (neg := true) ho hu hx hy
theorem Y.cmpNilP {t yt e : Nat} {p : Option Addr} {neg : Bool} (ho : o.op = .binOp (if neg then .neq else .eql) t x y yt) (hu : P.underlying t = some (.pointer e)) (hx : evO F x = some (.pointer p)) (hy : evO F y = some (.pointer none)) : Yld P N o F As (.bool (if neg then !p.isNone else p.isNone)) := fun a' w ha _ => by
  have hu : P.underlying t = some (.pointer (P.pointee t)) := by
    have : P.pointee t = e := by unfold Program.pointee; rw [hu]
    rw [this]; exact hu
  unfold execOp; rw [ho]
  replace hx := ha.eval hx
  replace hy := ha.eval hy
  generalize a'.eval = ρ at hx hy ⊢
  cases neg
  · simp [hx, hy, eqGuard, binOp, run_equal_pointer_nil _ t p hu, go_sem]
  · simp [hx, hy, eqGuard, binOp, run_equal_pointer_nil _ t p hu, go_sem]
theorem Y.eqNilP {t yt e : Nat} {p : Addr} (ho : o.op = .binOp .eql t x y yt) (hu : P.underlying t = some (.pointer e)) (hx : evO F x = some (.pointer (some p))) (hy : evO F y = some (.pointer none)) : Yld P N o F As (.bool false) := Y.cmpNilP (neg := false) ho hu hx hy
theorem Y.neNilP {t yt e : Nat} {p : Addr} (ho : o.op = .binOp .neq t x y yt) (hu : P.underlying t = some (.pointer e)) (hx : evO F x = some (.pointer (some p))) (hy : evO F y = some (.pointer none)) : Yld P N o F As (.bool true) := Y.cmpNilP (neg := true) ho hu hx hy
theorem Y.eqNil0 {t yt e : Nat} (ho : o.op = .binOp .eql t x y yt) (hu : P.underlying t = some (.pointer e)) (hx : evO F x = some (.pointer none)) (hy : evO F y = some (.pointer none)) : Yld P N o F As (.bool true) := Y.cmpNilP (neg := false) ho hu hx hy
theorem Y.neNil0 {t yt e : Nat} (ho : o.op = .binOp .neq t x y yt) (hu : P.underlying t = some (.pointer e)) (hx : evO F x = some (.pointer none)) (hy : evO F y = some (.pointer none)) : Yld P N o F As (.bool false) := Y.cmpNilP (neg := true) ho hu hx hy
theorem own_cut {a : Option Addr} {n cap k : Nat} {sz : Nat} : ∀ q ∈ own (cutV a cap k n sz), q ∈ own (.slice a n cap) := by
  intro q hq
  unfold cutV at hq
  split at hq
  · cases a with
    | none => simp [own] at hq
    | some p => simpa [own] using hq
  · cases a with
    | none => simp [own] at hq
    | some p => simpa [own, add_block] using hq
theorem Ent.dropRds {sz n cap k : Nat} {a : Option Addr} {cs : List Value} (hk : k ≤ n) : Ent (SA.rds sz (.slice a n cap) n cs :: L) (SA.rds sz (cutV a cap k n sz) (n - k) (cs.drop (k * sz)) :: L) := Ent.imp fun w O R h =>
  ⟨O, R, ⟨fun hn q hq => h.1 (by omega) q (own_cut q hq), h.2.drop hk⟩, fun _ h => h, fun _ h => .inr h⟩
theorem Ent.cutRds {n cap k : Nat} {a : Option Addr} {l : List UInt8} (hk : k ≤ n) : Ent (SA.rds 1 (.slice a n cap) n (l.map v8) :: L) (SA.rds 1 (.slice a k cap) k ((l.take k).map v8) :: SA.rds 1 (cutV a cap k n 1) (n - k) ((l.drop k).map v8) :: L) := by
  have h := (Ent.dup Dup.rds).trans ((Ent.takeRds (sz := 1) (a := a) (cap := cap) (cs := l.map v8) hk).trans (Ent.under (L := SA.rds 1 (.slice a n cap) n (l.map v8) :: L) _ (Ent.dropRds hk)))
  simpa [List.map_take, List.map_drop] using h
/-! ### slice literals of structs -/
theorem flat_len' {sz : Nat} {vs : List Value} (h : ∀ v ∈ vs, v.cells.size = sz) : (vs.flatMap (·.cells.toList)).length = vs.length * sz := by
  induction vs with
  | nil => simp
  | cons x r ih => rw [List.flatMap_cons, List.length_append, ih (fun v hv => h v (by simp [hv])), Array.length_toList, h x (by simp), List.length_cons, Nat.add_mul]; omega
theorem writeAt_app (xs ys : List Value) : ∀ (cs : Array Value) (o : Nat), writeAt cs o (xs ++ ys) = writeAt (writeAt cs o xs) (o + xs.length) ys := by
  induction xs with
  | nil => intro cs o; rfl
  | cons x r ih => intro cs o; simp only [List.cons_append, writeAt, ih, List.length_cons]; congr 1; omega
theorem fold_write (l : List Value) : ∀ (cs : Array Value) (o k : Nat), (l.zipIdx k).foldl (fun cs (p : Value × Nat) => cs.setIfInBounds (o + p.2) p.1) cs = writeAt cs (o + k) l := by
  induction l with
  | nil => intro cs o k; rfl
  | cons v r ih => intro cs o k; simp only [List.zipIdx_cons, List.foldl_cons, writeAt, ih]; rfl
theorem fill_flat {sz : Nat} (vs : List Value) : ∀ (k : Nat) (cells : Array Value), (∀ v ∈ vs, v.cells.size = sz) → (k + vs.length) * sz ≤ cells.size →
    Instr.fill (fun i => some (i * sz, sz)) cells ((List.range' k vs.length).zip vs) = some (writeAt cells (k * sz) (vs.flatMap (·.cells.toList))) := by
  induction vs with
  | nil => intro k cells _ _; rfl
  | cons v r ih =>
    intro k cells h1 hk
    have hs := h1 v (by simp)
    simp only [List.length_cons] at hk ⊢
    rw [List.range'_succ, List.zip_cons_cons, Instr.fill]
    have h2 : k * sz + sz ≤ (k + (r.length + 1)) * sz := by rw [← Nat.succ_mul]; exact Nat.mul_le_mul_right _ (by omega)
    have hc : ¬ (k * sz + v.cells.size > cells.size) := by rw [hs]; omega
    have hf : v.cells.zipIdx.foldl (fun cs (p : Value × Nat) => cs.setIfInBounds (k * sz + p.2) p.1) cells = writeAt cells (k * sz) v.cells.toList := by
      rw [← Array.foldl_toList, Array.toList_zipIdx]
      exact fold_write v.cells.toList cells (k * sz) 0
    have := ih (k + 1) (writeAt cells (k * sz) v.cells.toList) (fun u hu => h1 u (by simp [hu])) (by rw [writeAt_size]; rw [show k + 1 + r.length = k + (r.length + 1) by omega]; exact hk)
    have hd : (decide (v.cells.size ≠ sz) || decide (k * sz + v.cells.size > cells.size)) = false := by simp [hs]; omega
    simp only [hd, Bool.false_eq_true, if_false]
    show Instr.fill _ (v.cells.zipIdx.foldl (fun cs (p : Value × Nat) => cs.setIfInBounds (k * sz + p.2) p.1) cells) _ = _
    rw [hf, this, List.flatMap_cons, writeAt_app]
    congr 2
    rw [Nat.add_mul, Array.length_toList, hs, Nat.one_mul]
/-- a slice literal of structs, all given -/
theorem X.litA {t e sz bytes n : Nat} {z : Value} {parts : List (Nat × Operand)} {vs cells : List Value} (ho : o.op = .buildSlice t n parts.toArray) (hu : P.underlying t = some (.slice e)) (hz : ((P.info? e).bind fun i => i.zero.map fun z => (i.size, z.cells.size)) = some (sz, sz)) (hp : evA F (parts.map (·.2)) = some vs) (hi : parts.map (·.1) = List.range' 0 vs.length) (hlen : vs.length = n) (hn : n * sz ≤ 16777216) (hpos : 0 < sz) (hm : n ≤ maxLen)
    (h1 : vs.all (fun v => v.cells.size == sz) = true) (hc : vs.flatMap (·.cells.toList) = cells) (hone : cells.all (·.oneCell') = true) :
    Eff P N o F L (fun v L' => ∃ g, v = .slice (some ⟨g, 0, none⟩) n n ∧ L' = SA.owns e sz (.slice (some ⟨g, 0, none⟩) n n) n cells :: L) := by
  have h1' : ∀ v ∈ vs, v.cells.size = sz := fun v hv => by simpa using List.all_eq_true.1 h1 v hv
  obtain ⟨inf, hinf, hq⟩ := Option.bind_eq_some_iff.1 hz
  obtain ⟨zv, hzv, hq2⟩ := Option.map_eq_some_iff.1 hq
  simp only [Prod.mk.injEq] at hq2
  have hlc : cells.length = n * sz := by rw [← hc, ← hlen]; exact flat_len' h1'
  have := X.buildSlice (L := L) (e := e) (sz := sz) (cells := cells.toArray) ho hp (N := N) (P := P) (fun w => ?_) (by simpa using hlc) (by simpa using hone) hm
  · simpa using this
  · rw [hi]
    have hcn : ¬ (n * sz > 2 ^ 24) := by omega
    unfold Instr.buildSlice
    simp only [Sem.run_bind, run_underlying hu, Result.andThen_ok, sizeOf, typeInfo, List.toList_toArray]
    simp only [Sem.run_bind, run_program, Result.andThen_ok, hinf, Sem.run_pure, hq2.1]
    have hfill : ∀ zz : Array Value, Instr.fill (fun i => some (i * sz, sz)) (Array.map (fun x => zz[x % zz.size]!) (Array.range (n * sz))) ((List.range' 0 vs.length).zip vs) = some cells.toArray := fun zz => by
      rw [fill_flat vs 0 _ h1' (by simp [hlen]), hc, Nat.zero_mul, writeAt_all _ _ (by simp [hlc])]
    have hzr : (zeroValue e).run P w = .ok zv w := by simp [zeroValue, typeInfo, hinf, hzv, go_sem]
    have htail : ∀ zz : Array Value, Sem.run P (match Instr.fill (fun i => some (i * sz, sz)) (Array.map (fun x => zz[x % zz.size]!) (Array.range (n * sz))) ((List.range' 0 vs.length).zip vs) with
        | some cells => do
          let r ← newRow e cells
          pure (Value.slice (some r) n n)
        | x => stuck "buildSlice: a part of the wrong size") w = Result.ok (Value.slice (some { block := w.heap.size, off := 0 }) n n) (w.alloc (Obj.cells cells.toArray e)) := fun zz => by
      rw [hfill]
      rfl
    rw [if_neg hcn]
    by_cases h0 : n * sz = 0
    · rw [if_pos h0]
      exact htail #[]
    · rw [if_neg h0, Sem.run_bind, hzr, Result.andThen_ok]
      exact htail zv.cells
theorem holds_nil : ∀ w, Holds L w → Holds [] w := fun w _ A hA => by cases hA
theorem holds_cons {A : SA} (hA : In A L) (h : ∀ w, Holds L w → Holds As w) : ∀ w, Holds L w → Holds (A :: As) w := fun w hw B hB => by
  cases hB with
  | here => exact hw _ hA
  | there hB => exact h w hw B hB
end
end Go.Proofs.Ytomplpdeeomehaa
