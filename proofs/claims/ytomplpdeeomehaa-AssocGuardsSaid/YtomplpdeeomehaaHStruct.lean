/- Equality of structs of scalars. No program is named. -/
import Derived.Test.YtomplpdeeomehaaHX
import Derived.Laws.StructEq
namespace Go.Proofs.Ytomplpdeeomehaa
set_option linter.unusedVariables false
set_option linter.unusedSimpArgs false
open Go.RowKit
section
variable {P : Program} {N : Nat} {F : FE} {As L L0 : List SA} {o : Oper} {x y z : Operand} {v : Value}
/-- these two of type t are equal, or not -/
def EqV (P : Program) (t : TypeId) (a b : Value) (r : Bool) : Prop := ∀ d w, (Op.equalIn (d + 1) t a b).run P w = .ok r w
theorem EqV.int {t : TypeId} {k k' : IntKind} {a b : Int} (h : P.underlying t = some (.int k')) : EqV P t (.int k a) (.int k b) (a == b) := fun d w => run_equalIn_int w d t k k' a b h
theorem EqV.bool {t : TypeId} {a b : Bool} (h : P.underlying t = some .bool) : EqV P t (.bool a) (.bool b) (a == b) := fun d w => run_equalIn_bool w d t a b h
theorem EqV.str {t : TypeId} {a b : ByteArray} (h : P.underlying t = some .string) : EqV P t (.string a) (.string b) (a.toList == b.toList) := fun d w => run_equalIn_string w d t a b h
inductive FEq (P : Program) (xs ys : Array Value) : List (Bool × Nat × Nat) → Bool → Prop
  | nil : FEq P xs ys [] true
  | cons {t off : Nat} {a b : Value} {r1 r2 : Bool} {l : List (Bool × Nat × Nat)} : Program.isSc P t = true → xs[off]? = some a → ys[off]? = some b → EqV P t a b r1 → FEq P xs ys l r2 → FEq P xs ys ((false, t, off) :: l) (r1 && r2)
theorem part_sc {t off : Nat} {xs : Array Value} {a : Value} (hs : Program.isSc P t = true) (h : xs[off]? = some a) (w : World) : (part t xs off).run P w = .ok a w := by
  unfold Program.isSc at hs
  cases hq : P.underlying t with
  | none => simp [hq] at hs
  | some d => cases d <;> simp [hq] at hs <;> simp [part, isAgg, run_underlying hq, h, go_sem]
theorem FEq.run {xs ys : Array Value} (d : Nat) (w : World) : ∀ (fs : List Field) (l : List (Bool × Nat × Nat)) (r : Bool), fs.map (fun f => (f.name == "_", f.type, f.offset)) = l → FEq P xs ys l r → (Op.eqFields (d + 1) xs ys fs).run P w = .ok r w
  | [], _, _, rfl, h => by cases h; simp [Op.eqFields, go_sem]
  | f :: fs, _, _, e, h => by
    subst e
    simp only [List.map_cons] at h
    generalize hn : (f.name == "_") = nm at h
    cases h with
    | cons h1 h2 h3 h4 h5 =>
      have hn' : f.name ≠ "_" := by simpa using hn
      have ih := FEq.run d w fs _ _ rfl h5
      simp only [Op.eqFields, hn', ne_eq, not_false_eq_true, if_true, Sem.run_bind, part_sc h1 h2, part_sc h1 h3, Result.andThen_ok, h4 d w]
      rename_i r1 r2
      cases r1
      · simp [go_sem]
      · simpa using ih
theorem Y.cmpSt {t yt : Nat} {xs ys : Array Value} {l : List (Bool × Nat × Nat)} {r neg : Bool} (ho : o.op = .binOp (if neg then .neq else .eql) t x y yt) (hf : P.underlying t = some (.struct (P.fieldsOf t))) (hp : P.stoodInHeld t = false) (hg : P.eqGuardType P.depth t = false)
    (hl : (P.fieldsOf t).toList.map (fun f => (f.name == "_", f.type, f.offset)) = l) (hx : evO F x = some (.agg xs)) (hy : evO F y = some (.agg ys)) (h : FEq P xs ys l r) : Yld P N o F As (.bool (if neg then !r else r)) := fun a w ha _ => by
  unfold execOp; rw [ho]
  replace hx := ha.eval hx
  replace hy := ha.eval hy
  generalize a.eval = ρ at hx hy ⊢
  have e : (Op.equalIn 10000 t (.agg xs) (.agg ys)).run P w = .ok r w := by rw [run_equalIn_struct w 9999 t xs ys hf hp]; exact FEq.run 9998 w _ _ _ hl h
  cases neg
  · simp only [Bool.false_eq_true, if_false, hx, hy, Sem.run_bind, run_eqGuard_agg w .eql t x y _ _ hg, Result.andThen_ok, run_eql_struct, e, Sem.run_pure]
  · simp only [if_true, hx, hy, Sem.run_bind, run_eqGuard_agg w .neq t x y _ _ hg, Result.andThen_ok, run_neq_struct, e, Sem.run_pure]
theorem Y.eqSt {t yt : Nat} {xs ys : Array Value} {l : List (Bool × Nat × Nat)} {r : Bool} (ho : o.op = .binOp .eql t x y yt) (hf : P.underlying t = some (.struct (P.fieldsOf t))) (hp : P.stoodInHeld t = false) (hg : P.eqGuardType P.depth t = false)
    (hl : (P.fieldsOf t).toList.map (fun f => (f.name == "_", f.type, f.offset)) = l) (hx : evO F x = some (.agg xs)) (hy : evO F y = some (.agg ys)) (h : FEq P xs ys l r) : Yld P N o F As (.bool r) := Y.cmpSt (neg := false) ho hf hp hg hl hx hy h
theorem Y.neSt {t yt : Nat} {xs ys : Array Value} {l : List (Bool × Nat × Nat)} {r : Bool} (ho : o.op = .binOp .neq t x y yt) (hf : P.underlying t = some (.struct (P.fieldsOf t))) (hp : P.stoodInHeld t = false) (hg : P.eqGuardType P.depth t = false)
    (hl : (P.fieldsOf t).toList.map (fun f => (f.name == "_", f.type, f.offset)) = l) (hx : evO F x = some (.agg xs)) (hy : evO F y = some (.agg ys)) (h : FEq P xs ys l r) : Yld P N o F As (.bool (!r)) := Y.cmpSt (neg := true) ho hf hp hg hl hx hy h
end
end Go.Proofs.Ytomplpdeeomehaa
