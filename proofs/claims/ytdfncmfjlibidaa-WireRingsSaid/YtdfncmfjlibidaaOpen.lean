/- Arguments opened: a slice of integers, as my library reads it. No program is named. -/
import Derived.Test.YtdfncmfjlibidaaLib
import Derived.ProofKit
import Derived.OpenShut
import Derived.SizedLaws
namespace Go.Proofs.Ytdfncmfjlibidaa
set_option linter.unusedVariables false
open Go.ChangeShapes Go.WideShapes Go.ChangeAt Go.RowKit

/-- A slice of integers of kind k. -/
def ints (k : IntKind) (zs : List Int) : List Value := zs.map (Value.int k)
@[simp] theorem ints_length (k : IntKind) (l : List Int) : (ints k l).length = l.length := by simp [ints]

theorem ints_one (k : IntKind) (zs : List Int) : ∀ u ∈ ints k zs, u.oneCell' = true := by
  intro u hu
  obtain ⟨_, _, rfl⟩ := List.mem_map.1 hu
  rfl
theorem open_row {H : Type} {enc : TypeId × Value → H} {P : Program} {W : World} {base : Nat} {t e : TypeId} {k : IntKind} {v : Value} {d : DataW H} {p : List MemPlace} {held : Bool}
    (ht : P.underlying t = some (.slice e)) (he : P.underlying e = some (.int k)) (hc : P.cellsOf e = 1) (ho : Value.okWide P W .any base t v) (h : DataW.Trod enc P W 0 (fun _ => true) held t v d p) :
    ∃ zs : List Int, Rd W 1 v zs.length (ints k zs) ∧ (∀ z ∈ zs, (Lit.int k z).wf = true) ∧ ((d = .nil ∧ zs = []) ∨ ∃ spare, d = .slice (lits k zs) spare) := by
  obtain ⟨a, len, cap, rfl⟩ := okWide_slice ht ho
  obtain ⟨fuel, hf⟩ := h
  rcases open_ints ht he hc hf with ⟨hcs, hx⟩ | ⟨x, l, c, zs, hcs, _, hl, hm, hz, hx, hcell, hwz⟩
  · simp [Value.cells] at hcs
    obtain ⟨rfl, rfl, rfl⟩ := hcs
    cases hx
    exact ⟨[], ⟨rfl, ints_one _ _, none, 0, rfl, by simp, by simp, by simp, by simp⟩, by simp, .inl ⟨rfl, rfl⟩⟩
  · simp [Value.cells] at hcs
    obtain ⟨rfl, rfl, rfl⟩ := hcs
    simp at hz
    cases hx
    have hlen : (zs.take len).length = len := by simp; omega
    refine ⟨zs.take len, ⟨by simp, ints_one _ _, some x, cap, by rw [hlen], by omega, hm, by simp, ?_⟩, fun z hz' => hwz z (List.mem_of_mem_take hz'), .inr ⟨_, rfl⟩⟩
    intro b hb j u hu
    cases hb
    have hj : j < len := by have := (List.getElem?_eq_some_iff.1 hu).1; simpa [hlen] using this
    rw [hcell j (by omega)]
    rw [← hu]
    simp [ints, hj, List.getElem?_take, List.getD]
    cases hq : zs[j]? with
    | none => simp at hq; omega
    | some q => simp

/-- the reach of a slice of integers -/
theorem reach_row {H : Type} {P : Program} {ts : List TypeId} {ds : List (DataW H)} {j : Nat} {t e : TypeId} {k : IntKind} {d : DataW H} {zs : List Int}
    (h : (DataW.weightsEach P ts ds).all (· ≤ reachBytes) = true) (ht : ts[j]? = some t) (hd : ds[j]? = some d) (hu : P.underlying t = some (.slice e)) (hz : (d = .nil ∧ zs = []) ∨ ∃ spare, d = .slice (lits k zs) spare) :
    zs.length * P.bytesOf e ≤ 140737488351232 := by
  rcases hz with ⟨_, rfl⟩ | ⟨spare, rfl⟩
  · simp
  · have := sized_slice h ht hd hu
    simp only [lits, List.length_map, reachBytes] at this
    exact Nat.le_trans (Nat.mul_le_mul_right _ (by omega)) this
end Go.Proofs.Ytdfncmfjlibidaa
