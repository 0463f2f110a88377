/- StunBuilds: the walk meets the row. -/
import Derived.Test.YtggammbhmoippaaStunTop
import Derived.Test.YtggammbhmoippaaOpens
namespace Go.Proofs.Ytggammbhmoippaa
set_option linter.unusedVariables false
open Go.ChangeShapes Go.WideShapes Go.ChangeAt Go.RowKit

theorem msgC_of {cs : List Value} {c m : Int} {bs : List UInt8} {s : Value} (hl : cs.length = 15) (h0 : cs.take 1 = [.int .i64 c]) (h1 : (cs.drop 1).take 1 = [.int .i64 m]) (h2 : (cs.drop 2).take 12 = bc bs) (hb : bs.length = 12) (h3 : (cs.drop 14).take 1 = [s]) :
    cs = (msgC c m (fun i => bs.getD i 0) s).toList := by
  have e : cs = cs.take 1 ++ ((cs.drop 1).take 1 ++ ((cs.drop 2).take 12 ++ (cs.drop 14).take 1)) := by
    have e1 : (cs.drop 14).take 1 = cs.drop 14 := List.take_of_length_le (by simp; omega)
    have e2 : (cs.drop 2).take 12 ++ cs.drop 14 = cs.drop 2 := by
      have := List.take_append_drop 12 (cs.drop 2)
      rwa [List.drop_drop] at this
    have e3 : (cs.drop 1).take 1 ++ cs.drop 2 = cs.drop 1 := by
      have := List.take_append_drop 1 (cs.drop 1)
      rwa [List.drop_drop] at this
    rw [e1, e2, e3, List.take_append_drop]
  rw [e, h0, h1, h2, h3]
  obtain ⟨b0, b1, b2, b3, b4, b5, b6, b7, b8', b9, b10, b11, rfl⟩ : ∃ a0 a1 a2 a3 a4 a5 a6 a7 a8 a9 a10 a11, bs = [a0, a1, a2, a3, a4, a5, a6, a7, a8, a9, a10, a11] := by
    match bs, hb with
    | [a0, a1, a2, a3, a4, a5, a6, a7, a8, a9, a10, a11], _ => exact ⟨_, _, _, _, _, _, _, _, _, _, _, _, rfl⟩
  rfl

section
variable {H : Type} {enc : TypeId × Value → H} {W : World}
theorem In.attrs {v : Value} (h : In enc Try.prog W 23 [v]) : ∃ xs, AttrsAt W v xs ∧ (∀ a ∈ xs, 0 ≤ a.1 ∧ a.1 < 65536) ∧ xs.length * 32 ≤ 140737488351232 ∧ ∀ a ∈ xs, a.2.length ≤ 140737488351232 := by
  have c2 : Try.prog.cellsOf 65 = 2 := by kernel_rfl
  have b32 : Try.prog.bytesOf 65 = 32 := by kernel_rfl
  have c1 : Try.prog.cellsOf 5 = 1 := by kernel_rfl
  have b1 : Try.prog.bytesOf 5 = 1 := by kernel_rfl
  have k0 : Try.prog.cellsOf 44 = 1 := by kernel_rfl
  have k1 : Try.prog.cellsOf 27 = 1 := by kernel_rfl
  rcases h.slice Try.underlying23 with h1 | ⟨a, len, cap, h1, hl, hm, hr, hx⟩
  · cases h1
    exact ⟨[], AttrsAt.nil W, by simp, by simp, by simp⟩
  · cases h1
    rw [c2] at hx
    rw [b32] at hr
    obtain ⟨ys, y1, y2⟩ := choose_list (q := fun i (x : (Int × List UInt8) × Value) => W.cell? (a.add (i * 2)) = some (.int .u16 x.1.1) ∧ W.cell? (a.add (i * 2 + 1)) = some x.2 ∧ Rd W 1 x.2 x.1.2.length (bc x.1.2) ∧ (0 ≤ x.1.1 ∧ x.1.1 < 65536) ∧ x.1.2.length ≤ 140737488351232) (n := len) (fun i hi => by
      obtain ⟨es, e1, e2, e3⟩ := hx i hi
      have g0 := e3.field Try.underlying65 0 44 0 rfl k0
      have g1 := e3.field Try.underlying65 1 27 1 rfl k1
      obtain ⟨n, n1, n2⟩ := g0.int Try.underlying44
      obtain ⟨x0, x1, rfl⟩ : ∃ x0 x1, es = [x0, x1] := by
        match es, e1 with
        | [x0, x1], _ => exact ⟨x0, x1, rfl⟩
      simp at n1
      subst n1
      obtain ⟨bs, r1, r2⟩ := In.bytes (v := x1) (by simpa using g1) Try.underlying27 Try.underlying5 c1 b1
      have hb := bounds_u16 n2
      exact ⟨((n, bs), x1), e2 0 _ rfl, e2 1 _ rfl, r1, ⟨hb.1, by have := hb.2; show n < 65536; omega⟩, r2⟩)
    have hlen : (ys.map (·.1)).length = len := by simp [y1]
    have hall : ∀ a' ∈ ys.map (·.1), (0 ≤ a'.1 ∧ a'.1 < 65536) ∧ a'.2.length ≤ 140737488351232 := by
      intro a' ha
      obtain ⟨y, hy, rfl⟩ := List.mem_map.1 ha
      obtain ⟨i, hi, rfl⟩ := List.getElem_of_mem hy
      have := y2 i ys[i] (by simp [hi])
      exact ⟨this.2.2.2.1, this.2.2.2.2⟩
    refine ⟨ys.map (·.1), ⟨ys.map (·.2), by simp, ⟨attrCells_length _ _ (by simp), ?_, some a, cap, by rw [hlen], by omega, hm, by simp, ?_⟩, ?_⟩, fun a h => (hall a h).1, by simp only [reachBytes] at hr; omega, fun a h => (hall a h).2⟩
    · intro u hu
      obtain ⟨j, hj, rfl⟩ := List.getElem_of_mem hu
      rw [attrCells_length _ _ (by simp)] at hj
      have hj2 : j / 2 < ys.length := by simp at hj; omega
      obtain ⟨a1, a2⟩ := attrCells_get (ys.map (·.1)) (ys.map (·.2)) (j / 2) ys[j/2].1 ys[j/2].2 (by simp [hj2]) (by simp [hj2])
      rcases Nat.mod_two_eq_zero_or_one j with h | h
      · have e : j / 2 * 2 = j := by omega
        rw [e] at a1
        obtain ⟨_, a1⟩ := List.getElem?_eq_some_iff.1 a1
        rw [a1]; rfl
      · have e : j / 2 * 2 + 1 = j := by omega
        rw [e] at a2
        obtain ⟨_, a2⟩ := List.getElem?_eq_some_iff.1 a2
        rw [a2]
        exact rd_one (y2 (j/2) _ (by simp [hj2])).2.2.1
    · intro b hb j u hu
      cases hb
      have hj : j < (attrCells (ys.map (·.1)) (ys.map (·.2))).length := (List.getElem?_eq_some_iff.1 hu).1
      rw [attrCells_length _ _ (by simp)] at hj
      have hj2 : j / 2 < ys.length := by simp at hj; omega
      obtain ⟨a1, a2⟩ := attrCells_get (ys.map (·.1)) (ys.map (·.2)) (j / 2) ys[j/2].1 ys[j/2].2 (by simp [hj2]) (by simp [hj2])
      have hy := y2 (j/2) _ (List.getElem?_eq_getElem hj2)
      rcases Nat.mod_two_eq_zero_or_one j with h | h
      · have e : j / 2 * 2 = j := by omega
        rw [e] at a1 hy
        rw [a1] at hu; cases hu
        exact hy.1
      · have e : j / 2 * 2 + 1 = j := by omega
        rw [e] at a2 hy
        rw [a2] at hu; cases hu
        exact hy.2.1
    · intro i a' s ha hs
      simp only [List.getElem?_map, Option.map_eq_some_iff] at ha hs
      obtain ⟨y, h1, rfl⟩ := ha
      obtain ⟨y', h2, rfl⟩ := hs
      rw [h1] at h2; cases h2
      exact (y2 i y h1).2.2.1

theorem In.msg {cs : Array Value} (h : In enc Try.prog W 25 cs.toList) : ∃ c m f s xs, cs = msgC c m f s ∧ AttrsAt W s xs ∧ (∀ a ∈ xs, 0 ≤ a.1 ∧ a.1 < 65536) ∧ xs.length * 32 ≤ 140737488351232 ∧ ∀ a ∈ xs, a.2.length ≤ 140737488351232 := by
  have c15 : Try.prog.cellsOf 25 = 15 := by kernel_rfl
  obtain ⟨hl, g⟩ := h.struct Try.underlying25
  rw [c15] at hl
  have k0 : Try.prog.cellsOf 3 = 1 := by kernel_rfl
  have k2 : Try.prog.cellsOf 22 = 12 := by kernel_rfl
  have k3 : Try.prog.cellsOf 23 = 1 := by kernel_rfl
  have c1 : Try.prog.cellsOf 5 = 1 := by kernel_rfl
  have g0 := h.field Try.underlying25 0 3 0 rfl k0
  have g1 := h.field Try.underlying25 1 3 1 rfl k0
  have g2 := h.field Try.underlying25 2 22 2 rfl k2
  have g3 := h.field Try.underlying25 3 23 14 rfl k3
  obtain ⟨c, hc, _⟩ := g0.int Try.underlying3
  obtain ⟨m, hm, _⟩ := g1.int Try.underlying3
  obtain ⟨bs, hb, hbc⟩ := g2.byteArr Try.underlying22 Try.underlying5 c1 k2
  obtain ⟨s, hs⟩ : ∃ s, (cs.toList.drop 14).take 1 = [s] := ⟨cs.toList[14], by
    rw [List.drop_eq_getElem_cons (by omega)]; rfl⟩
  rw [hs] at g3
  obtain ⟨xs, h1, h2, h3, h4⟩ := g3.attrs
  have := msgC_of hl (by simpa using hc) hm hbc hb hs
  exact ⟨c, m, _, s, xs, Array.toList_inj.1 this, h1, h2, h3, h4⟩
end

set_option maxRecDepth 100000 in
theorem stunBuilds_open {H : Type} {enc : TypeId × Value → H} {W : World} {base : Nat} {v : Value} {d : DataW H} {p : List MemPlace}
    (o : Value.okWide Try.prog W .any base 25 v) (k : DataW.Trod enc Try.prog W 0 (fun _ => true) true 25 v d p)
    (hsz : (DataW.weightsEach Try.prog ([25] ++ []) ([d] ++ [])).all (· ≤ reachBytes) = true) :
    Calls Try.prog 3 #[v] W fun e w' => e = .returned (.bool true) ∧ Fr [] W w' := by
  obtain ⟨cs, rfl, _⟩ := okWide_struct Try.underlying25 o
  have h := In.top k hsz (j := 0) rfl rfl
  obtain ⟨c, m, f, s, xs, rfl, h1, h2, h3, h4⟩ := In.msg h
  exact stunBuilds_top c m f s xs W h1 h2 h3 h4
end Go.Proofs.Ytggammbhmoippaa
