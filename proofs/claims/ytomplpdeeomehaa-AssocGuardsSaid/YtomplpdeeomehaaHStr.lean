/- Strings: put together, and turned into bytes. No program is named. -/
import Derived.Test.YtomplpdeeomehaaHTab
import Derived.Lib.ConvBytes
namespace Go.Proofs.Ytomplpdeeomehaa
set_option linter.unusedVariables false
set_option linter.unusedSimpArgs false
open Go.RowKit
/-- the bytes of a string -/
def bl (t : ByteArray) : List UInt8 := t.data.toList
theorem bl_len (t : ByteArray) : (bl t).length = t.size := rfl
theorem bl_app (s t : ByteArray) : bl (s ++ t) = bl s ++ bl t := by simp [bl]
theorem bl_bstr (l : List UInt8) : bl (bstr l) = l := rfl
theorem bl_inj {s t : ByteArray} (h : bl s = bl t) : s = t := by
  obtain ⟨x⟩ := s
  obtain ⟨y⟩ := t
  congr 1
  exact Array.toList_inj.1 h
section
variable {P : Program} {N : Nat} {F : FE} {As L : List SA} {o : Oper} {x y : Operand}
theorem Y.addB {t yt : Nat} {a b : ByteArray} (ho : o.op = .binOp .add t x y yt) (hx : evO F x = some (.string a)) (hy : evO F y = some (.string b)) (h : a.size + b.size ≤ 9223372036854775807) : Yld P N o F As (.string (a ++ b)) := fun c w ha _ => by
  unfold execOp; rw [ho]
  replace hx := ha.eval hx
  replace hy := ha.eval hy
  generalize c.eval = ρ at hx hy ⊢
  have hm : (a.size : Int) + b.size ≤ 9223372036854775807 := by omega
  simp [hx, hy, eqGuard, binOp, Op.stringOp, hm, go_sem]
theorem St.madeR {w w' : World} (h : St L w) {sz : Nat} {v : Value} {n : Nat} {cs : List Value} (ho : Rd w' sz v n cs) (hf : Fr [] w w') (hn : ∀ k ∈ own v, w.heap.size ≤ k ∧ k < w'.heap.size) : St (SA.rds sz v n cs :: L) w' :=
  h.emp.upd fun O R _ _ => ⟨fun _ => False, fun k => k ∈ own v, ⟨fun _ _ h => h, ho⟩, fun k hk => hk.elim, fun k hk => .inr (.inr (hn k hk)), Ag.fr hf (by simp)⟩
/-- '[]byte(s)' -/
theorem X.strB {s d e : Nat} {t : ByteArray} (ho : o.op = .convert s d x) (hs : P.underlying s = some .string) (hd : P.underlying d = some (.slice e)) (he : P.underlying e = some (.int .u8)) (hx : evO F x = some (.string t)) (hm : t.size ≤ maxLen) :
    Eff P N o F L (fun v L' => ∃ g c, v = .slice (some ⟨g, 0, none⟩) t.size c ∧ L' = SA.rds 1 (.slice (some ⟨g, 0, none⟩) t.size c) t.size ((bl t).map v8) :: L) := by
  refine ⟨by rw [ho]; simp, fun Y a w ha hw K Q hK => ?_⟩
  unfold Oper.wp execOp; rw [ho]
  replace hx := ha.eval hx
  generalize a.eval = ρ at hx ⊢
  simp only [hx, Sem.run_bind, Go.Lib.run_convert_string_bytes w s d e t hs hd he, Result.andThen_ok, Sem.run_pure]
  have hsz := Go.Lib.bytesWorld_size w e t
  have hf : Fr [] w (Go.Lib.bytesWorld w e t) := ⟨rfl, rfl, rfl, by omega, fun k hk _ => Go.Lib.bytesWorld_at_old w e t k hk⟩
  refine hK _ _ _ ⟨_, _, rfl, rfl⟩ (St.up1 (hw.madeR ?_ hf fun k hk => ?_))
  · refine ⟨by simp [bl_len], one8, some ⟨w.heap.size, 0, none⟩, _, rfl, grownCap_ge w t.size 0 e, grownCap_le_maxLen w t.size 0 e hm, by simp, fun b hb j u hj => ?_⟩
    cases hb
    have hj' : j < t.size := by
      have := (List.getElem?_eq_some_iff.1 hj).1
      simpa [bl_len] using this
    rw [Addr.add_lit, Nat.zero_add, Go.Lib.bytesWorld_cell w e t j hj', ← hj, getML (d := (0 : UInt8)) (by rw [bl_len]; exact hj')]; rfl
  · simp [own] at hk
    subst hk
    omega
theorem Cels.pre {p : Addr} {l l' : List Value} (h : Cels As p l) (hp : l' <+: l) : Cels As p l' := fun w hw j u hj => by
  obtain ⟨t, rfl⟩ := hp
  refine h w hw j u ?_
  rw [List.getElem?_append_left (List.getElem?_eq_some_iff.1 hj).1]; exact hj
end
theorem Ent.eqOwn {e sz n : Nat} {v : Value} {cs cs' : List Value} {L L0 : List SA} (h : Pull (SA.owns e sz v n cs) L L0) (he : cs = cs') : Ent L (SA.owns e sz v n cs' :: L0) := he ▸ h.ent
/-- one cell of an element, written over -/
theorem Dat.cs_setE {α : Type} [Dat α] {l : List α} {i j : Nat} {x y : α} {v : Value} (hx : l[i]? = some x) (hj : j < Dat.sz α) (h : (Dat.c x).set j v = Dat.c y) : (Dat.cs l).set (i * Dat.sz α + j) v = Dat.cs (l.set i y) := by
  have hi := (List.getElem?_eq_some_iff.1 hx).1
  have hk : (Dat.cs (l.take i)).length = i * Dat.sz α := by rw [Dat.cs_len, List.length_take, Nat.min_eq_left (by omega)]
  have e0 : Dat.cs l = Dat.cs (l.take i) ++ (Dat.c x ++ Dat.cs (l.drop (i + 1))) := by
    conv => lhs; rw [split_at hx]
    rw [Dat.cs_app, show x :: l.drop (i + 1) = [x] ++ l.drop (i + 1) from rfl, Dat.cs_app, Dat.cs_one]
  have e1 : Dat.cs (l.set i y) = Dat.cs (l.take i) ++ (Dat.c y ++ Dat.cs (l.drop (i + 1))) := by
    rw [set_at _ hx, Dat.cs_app, show y :: l.drop (i + 1) = [y] ++ l.drop (i + 1) from rfl, Dat.cs_app, Dat.cs_one]
  rw [e0, e1, List.set_append_right _ _ (by omega), show i * Dat.sz α + j - (Dat.cs (l.take i)).length = j by omega, List.set_append_left _ _ (by rw [Dat.len]; exact hj), h]
end Go.Proofs.Ytomplpdeeomehaa
