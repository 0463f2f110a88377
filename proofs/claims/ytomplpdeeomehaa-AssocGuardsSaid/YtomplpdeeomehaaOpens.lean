/- Arguments opened, of any make: what the reading of a value says of its cells, and how much it weighs. No program is named. -/
import Derived.Test.YtomplpdeeomehaaBytes
import Derived.ProofKit
import Derived.OpenShut
import Derived.SizedLaws
import Derived.DataReads
namespace Go.Proofs.Ytomplpdeeomehaa
set_option linter.unusedVariables false
set_option linter.unusedSimpArgs false
open Go.ChangeShapes Go.WideShapes Go.ChangeAt Go.RowKit

/-- These cells read as a value of type t, of parts within reach. -/
def Opn {H : Type} (enc : TypeId × Value → H) (P : Program) (W : World) (t : TypeId) (cs : List Value) : Prop :=
  ∃ (d : DataW H) (fuel : Nat) (p : List MemPlace), DataW.trod enc P W 0 (fun _ => true) true fuel t cs = some (d, p) ∧ ∀ n ∈ d.weights P t, n ≤ reachBytes

theorem weightsAll_mem {H : Type} {P : Program} {e : TypeId} {l : List (DataW H)} {d : DataW H} {n : Nat} (hd : d ∈ l) (hn : n ∈ d.weights P e) : n ∈ DataW.weightsAll P e l := by
  induction l with
  | nil => cases hd
  | cons x r ih =>
    simp only [DataW.weightsAll, List.mem_append]
    rcases List.mem_cons.1 hd with rfl | h
    · exact .inl hn
    · exact .inr (ih h)

section
variable {H : Type} {enc : TypeId × Value → H} {P : Program} {W : World} {t e : TypeId} {cs : List Value}
theorem Opn.top {ts : List TypeId} {ds : List (DataW H)} {j : Nat} {v : Value} {d : DataW H} {p : List MemPlace} (k : DataW.Trod enc P W 0 (fun _ => true) true t v d p)
    (h : (DataW.weightsEach P ts ds).all (· ≤ reachBytes) = true) (ht : ts[j]? = some t) (hd : ds[j]? = some d) : Opn enc P W t v.cells.toList := by
  obtain ⟨f, hf⟩ := k
  exact ⟨d, f, p, hf, fun n hn => by simpa using List.all_eq_true.1 h _ (DataW.weights_mem_each ht hd n hn)⟩
theorem Opn.int {k : IntKind} (h : Opn enc P W t cs) (ht : P.underlying t = some (.int k)) : ∃ n, cs = [.int k n] ∧ (Lit.int k n).wf = true := by
  obtain ⟨d, f, p, hf, _⟩ := h
  obtain ⟨n, h1, _, h2⟩ := DataW.trod_int ht hf
  exact ⟨n, h1, h2⟩
theorem Opn.bool (h : Opn enc P W t cs) (ht : P.underlying t = some .bool) : ∃ b, cs = [.bool b] := by
  obtain ⟨d, f, p, hf, _⟩ := h
  obtain ⟨n, h1, _⟩ := DataW.trod_bool ht hf
  exact ⟨n, h1⟩
theorem Opn.string (h : Opn enc P W t cs) (ht : P.underlying t = some .string) : ∃ s : ByteArray, cs = [.string s] ∧ s.size ≤ reachBytes := by
  obtain ⟨d, f, p, hf, hw⟩ := h
  obtain ⟨s, h1, h2, h3⟩ := DataW.trod_string ht hf
  simp only [Prod.mk.injEq] at h2
  refine ⟨s, h1, ?_⟩
  have := hw s.data.toList.length (by rw [h2.1]; simp [DataW.weights])
  simpa using this
theorem Opn.struct {fs : Array Field} (h : Opn enc P W t cs) (ht : P.underlying t = some (.struct fs)) : cs.length = P.cellsOf t ∧ ∀ (i : Nat) (f : Field), fs[i]? = some f → Opn enc P W f.type ((cs.drop f.offset).take (P.cellsOf f.type)) := by
  obtain ⟨d, f, p, hf, hw⟩ := h
  obtain ⟨xs, n, _, h2, hl, hn, hx⟩ := DataW.trod_struct ht hf
  simp only [Prod.mk.injEq] at h2
  refine ⟨hl, fun i f hi => ?_⟩
  have hlt : i < xs.length := by rw [hn]; exact (Array.getElem?_eq_some_iff.1 hi).1
  have := hx i f hi
  rw [List.getElem?_eq_getElem hlt] at this
  refine ⟨xs[i].1, n, xs[i].2, this, fun m hm => hw m ?_⟩
  rw [h2.1]
  simp only [DataW.weights, ht]
  exact DataW.weights_mem_each (j := i) (by simp [hi]) (by simp [hlt]) m hm
/-- a field of it -/
theorem Opn.field {fs : Array Field} (h : Opn enc P W t cs) (ht : P.underlying t = some (.struct fs)) (i t' o : Nat) {n : Nat} (hf : (fs[i]?).map (fun f => (f.type, f.offset)) = some (t', o)) (hc : P.cellsOf t' = n) : Opn enc P W t' ((cs.drop o).take n) := by
  obtain ⟨f, h1, h2⟩ := Option.map_eq_some_iff.1 hf
  simp only [Prod.mk.injEq] at h2
  obtain ⟨rfl, rfl⟩ := h2
  rw [← hc]
  exact (h.struct ht).2 i f h1
theorem Opn.array {n : Nat} (h : Opn enc P W t cs) (ht : P.underlying t = some (.array n e)) : cs.length = P.cellsOf t ∧ ∀ i, i < n → Opn enc P W e ((cs.drop (i * P.cellsOf e)).take (P.cellsOf e)) := by
  obtain ⟨d, f, p, hf, hw⟩ := h
  obtain ⟨xs, m, _, h2, hl, hn, hx⟩ := DataW.trod_array ht hf
  simp only [Prod.mk.injEq] at h2
  refine ⟨hl, fun i hi => ?_⟩
  have hlt : i < xs.length := by omega
  have := hx i hi
  rw [List.getElem?_eq_getElem hlt] at this
  refine ⟨xs[i].1, m, xs[i].2, this, fun q hq => hw q ?_⟩
  rw [h2.1]
  simp only [DataW.weights, ht]
  exact weightsAll_mem (d := xs[i].1) (List.mem_map.2 ⟨_, List.getElem_mem hlt, rfl⟩) hq
theorem Opn.slice (h : Opn enc P W t cs) (ht : P.underlying t = some (.slice e)) : cs = [.slice none 0 0] ∨
    ∃ (a : Addr) (len cap : Nat), cs = [.slice (some a) len cap] ∧ len ≤ cap ∧ cap ≤ maxLen ∧ cap * P.bytesOf e ≤ reachBytes ∧
      ∀ i, i < len → ∃ es : List Value, es.length = P.cellsOf e ∧ (∀ j u, es[j]? = some u → W.cell? (a.add (i * P.cellsOf e + j)) = some u) ∧ Opn enc P W e es := by
  obtain ⟨d, f, p, hf, hw⟩ := h
  rcases DataW.trod_slice ht hf with ⟨h1, _⟩ | ⟨a, len, cap, elems, rest, n, _, h1, h2, _, hl, hm, hlen, hel, hsp, _⟩
  · exact .inl h1
  · right
    simp only [Prod.mk.injEq] at h2
    have hr := (hsp rfl).1
    refine ⟨a, len, cap, h1, hl, hm, ?_, fun i hi => ?_⟩
    · refine Nat.le_trans ?_ (hw ((elems.length + rest.length) * P.bytesOf e) (by rw [h2.1]; simp [DataW.weights, ht]))
      exact Nat.mul_le_mul_right _ (by omega)
    · have hlt : i < elems.length := by omega
      have := hel i hi
      rw [List.getElem?_eq_getElem hlt, Option.bind_eq_some_iff] at this
      obtain ⟨es, he, hx⟩ := this
      obtain ⟨_, e2, e3⟩ := World.cells?_some he
      refine ⟨es, e2, fun j u hu => ?_, elems[i].1, n, elems[i].2, hx, fun q hq => hw q ?_⟩
      · have hj : j < P.cellsOf e := by rw [← e2]; exact (List.getElem?_eq_some_iff.1 hu).1
        rw [← add_add, e3 j hj, hu]
      · rw [h2.1]
        simp only [DataW.weights, ht]
        exact List.mem_cons_of_mem _ (List.mem_append_left _ (weightsAll_mem (d := elems[i].1) (List.mem_map.2 ⟨_, List.getElem_mem hlt, rfl⟩) hq))

theorem choose_list {α : Type} {n : Nat} {q : Nat → α → Prop} (h : ∀ i, i < n → ∃ x, q i x) : ∃ xs : List α, xs.length = n ∧ ∀ i x, xs[i]? = some x → q i x := by
  induction n with
  | zero => exact ⟨[], rfl, by simp⟩
  | succ n ih =>
    obtain ⟨xs, h1, h2⟩ := ih (fun i hi => h i (by omega))
    obtain ⟨x, hx⟩ := h n (by omega)
    refine ⟨xs ++ [x], by simp [h1], fun i y hy => ?_⟩
    rw [List.getElem?_append] at hy
    split at hy
    · exact h2 i y hy
    · have : i - xs.length = 0 := by
        have := (List.getElem?_eq_some_iff.1 hy).1; simp at this; omega
      rw [this] at hy
      cases hy
      have e : i = n := by omega
      rw [e]; exact hx
/-- a byte is a byte -/
theorem wf_u8 {n : Int} (h : (Lit.int .u8 n).wf = true) : n = ((b8 n).toNat : Int) := by
  have := bounds_u8 h
  rw [b8_val]
  omega
/-- A slice of bytes. -/
theorem Opn.bytes {v : Value} (h : Opn enc P W t [v]) (ht : P.underlying t = some (.slice e)) (he : P.underlying e = some (.int .u8)) (hc : P.cellsOf e = 1) (hb : P.bytesOf e = 1) : ∃ bs : List UInt8, Rd W 1 v bs.length (bc bs) ∧ bs.length ≤ reachBytes := by
  rcases h.slice ht with h1 | ⟨a, len, cap, h1, hl, hm, hr, hx⟩
  · cases h1
    exact ⟨[], ⟨rfl, by simp [bc], none, 0, rfl, by simp, by simp, by simp, by simp [bc]⟩, by simp⟩
  · cases h1
    rw [hc] at hx
    rw [hb, Nat.mul_one] at hr
    obtain ⟨bs, h1, h2⟩ := choose_list (q := fun i (x : UInt8) => W.cell? (a.add i) = some (.int .u8 (x.toNat : Int))) (n := len) (fun i hi => by
      obtain ⟨es, e1, e2, e3⟩ := hx i hi
      obtain ⟨n, rfl, hn⟩ := e3.int he
      have := e2 0 _ rfl
      rw [Nat.mul_one, Nat.add_zero, wf_u8 hn] at this
      exact ⟨_, this⟩)
    refine ⟨bs, ⟨by simp, bc_one bs, some a, cap, by rw [h1], by omega, hm, by simp, ?_⟩, by omega⟩
    intro b hb' j u hu
    cases hb'
    simp only [bc, List.getElem?_map, Option.map_eq_some_iff] at hu
    obtain ⟨x, hx', rfl⟩ := hu
    exact h2 j x hx'
/-- An array of bytes: its cells. -/
theorem Opn.byteArr {n : Nat} (h : Opn enc P W t cs) (ht : P.underlying t = some (.array n e)) (he : P.underlying e = some (.int .u8)) (hc : P.cellsOf e = 1) (hn : P.cellsOf t = n) : ∃ bs : List UInt8, bs.length = n ∧ cs = bc bs := by
  obtain ⟨h1, h2⟩ := h.array ht
  rw [hn] at h1
  rw [hc] at h2
  obtain ⟨bs, g1, g2⟩ := choose_list (q := fun i (x : UInt8) => cs[i]? = some (.int .u8 (x.toNat : Int))) (n := n) (fun i hi => by
    obtain ⟨m, hm, hw⟩ := (h2 i hi).int he
    have : cs[i]? = some (.int .u8 m) := by
      have := congrArg (·[0]?) hm
      simpa using this
    rw [wf_u8 hw] at this
    exact ⟨_, this⟩)
  refine ⟨bs, g1, List.ext_getElem? fun i => ?_⟩
  by_cases hi : i < n
  · have hi' : i < bs.length := by omega
    rw [g2 i bs[i] (by simp [hi'])]
    simp [bc, hi']
  · rw [List.getElem?_eq_none (by omega), List.getElem?_eq_none (by simp; omega)]
end
end Go.Proofs.Ytomplpdeeomehaa
