/- Arguments that are data meet the rows. No program is named. -/
import Derived.Test.YtomplpdeeomehaaHX
namespace Go.Proofs.Ytomplpdeeomehaa
set_option linter.unusedVariables false
set_option linter.unusedSimpArgs false
open Go.ChangeShapes Go.WideShapes Go.ChangeAt Go.RowKit
section
variable {H : Type} {enc : TypeId × Value → H} {P : Program} {W : World} {base : Nat} {t e : TypeId} {v : Value} {d : DataW H} {p : List MemPlace} {ts : List TypeId} {ds : List (DataW H)}
theorem open_dat {α : Type} [Dat α] {Bd : α → Prop} (hT : DatT P t α Bd) (j : Nat) (k : DataW.Trod enc P W 0 (fun _ => true) true t v d p)
    (hsz : (DataW.weightsEach P ts ds).all (· ≤ reachBytes) = true) (ht : ts[j]? = some t) (hd : ds[j]? = some d) : ∃ x : α, v.cells.toList = Dat.c x ∧ RdAll W (Dat.g x) ∧ Bd x :=
  hT H enc W _ (Opn.top k hsz ht hd)
theorem open_struct {α : Type} [Dat α] {Bd : α → Prop} {fs : Array Field} (hT : DatT P t α Bd) (hu : P.underlying t = some (.struct fs)) (j : Nat) (o : Value.okWide P W .any base t v) (k : DataW.Trod enc P W 0 (fun _ => true) true t v d p)
    (hsz : (DataW.weightsEach P ts ds).all (· ≤ reachBytes) = true) (ht : ts[j]? = some t) (hd : ds[j]? = some d) : ∃ x : α, v = .agg (Dat.c x).toArray ∧ RdAll W (Dat.g x) ∧ Bd x := by
  unfold Value.okWide at o
  simp only [hu] at o
  obtain ⟨cs, rfl, _⟩ := o
  obtain ⟨x, h1, h2⟩ := open_dat hT j k hsz ht hd
  exact ⟨x, by simp only [Value.cells] at h1; rw [← h1], h2⟩
theorem open_slice {α : Type} [Dat α] {Bd : Sl α → Prop} (hT : DatT P t (Sl α) Bd) (hu : P.underlying t = some (.slice e)) (j : Nat) (o : Value.okWide P W .any base t v) (k : DataW.Trod enc P W 0 (fun _ => true) true t v d p)
    (hsz : (DataW.weightsEach P ts ds).all (· ≤ reachBytes) = true) (ht : ts[j]? = some t) (hd : ds[j]? = some d) : ∃ x : Sl α, v = x.v ∧ RdAll W (Dat.g x) ∧ Bd x := by
  obtain ⟨a, len, cap, rfl⟩ := okWide_slice hu o
  obtain ⟨x, h1, h2⟩ := open_dat hT j k hsz ht hd
  refine ⟨x, ?_, h2⟩
  have h1 : [Value.slice a len cap] = [x.v] := h1
  exact List.head_eq_of_cons_eq h1
theorem DatT.bytes (ht : P.underlying t = some (.slice e)) (he : P.underlying e = some (.int .u8)) (hc : P.cellsOf e = 1) (hB : P.bytesOf e = 1) : DatT P t Bs (fun s => s.l.length ≤ reachBytes) := fun H enc W cs ho => by
  obtain ⟨x, h1, h2, h3⟩ := DatT.slice (α := UInt8) ht hc hB (DatT.u8 he) H enc W cs ho
  exact ⟨x, h1, h2, by simpa using h3.1⟩
theorem SA.dat_arg {α : Type} [Dat α] {x : α} (h : RdAll W (Dat.g x)) : ∃ R, (SA.dat x).p W (fun _ => False) R ∧ ∀ k, R k → k < W.heap.size := h.st
theorem in_last {A : SA} : ∀ As : List SA, In A (As ++ [A])
  | [] => In.here
  | _ :: As => In.there (in_last As)
/-- the statement's walk meets the row: its arguments are such data, and stay -/
theorem Fn.topD {f : FuncId} {args : List Value} {As : List SA} (h : Fn P f args (As ++ [SA.old W]) (fun v L' => v = .bool true ∧ L' = As ++ [SA.old W])) (hA : ∀ A, In A As → ∃ R, A.p W (fun _ => False) R ∧ ∀ k, R k → k < W.heap.size) :
    Calls P f args.toArray W fun e w' => e = .returned (.bool true) ∧ Fr [] W w' :=
  Fn.top (As := As) (h.mono fun v L' ⟨e1, e2⟩ => ⟨L', Ent.refl, e1, e2 ▸ in_last As⟩) hA
end
end Go.Proofs.Ytomplpdeeomehaa
