/- Writing elements of a slice of one's own; more on data in cells. No program is named. -/
import Derived.Test.YtomplpdeeomehaaHRing
namespace Go.Proofs.Ytomplpdeeomehaa
set_option linter.unusedVariables false
set_option linter.unusedSimpArgs false
open Go.RowKit
def wr (cs : List Value) (j : Nat) (vs : List Value) : List Value := cs.take j ++ vs ++ cs.drop (j + vs.length)
theorem wr_get (cs vs : List Value) (j i : Nat) (h : j + vs.length ≤ cs.length) : (wr cs j vs)[i]? = if j ≤ i ∧ i < j + vs.length then vs[i - j]? else cs[i]? := by
  have h1 : (cs.take j).length = j := by rw [List.length_take]; omega
  unfold wr
  by_cases h2 : i < j
  · rw [List.append_assoc, List.getElem?_append_left (by omega), List.getElem?_take, if_pos h2, if_neg (by omega)]
  · by_cases h3 : i < j + vs.length
    · rw [List.getElem?_append_left (by rw [List.length_append]; omega), List.getElem?_append_right (by omega), h1, if_pos (by omega)]
    · rw [List.getElem?_append_right (by rw [List.length_append]; omega), List.getElem?_drop, List.length_append, h1, if_neg (by omega)]
      congr 1; omega
theorem wr_len (cs vs : List Value) (j : Nat) (h : j + vs.length ≤ cs.length) : (wr cs j vs).length = cs.length := by
  unfold wr; simp only [List.length_append, List.length_take, List.length_drop]; omega
theorem Own.within {w : World} {e sz g off n cap : Nat} {cs : List Value} (h : Own w e sz (.slice (some ⟨g, off, none⟩) n cap) n cs) (vs : List Value) (h1 : ∀ v ∈ vs, v.oneCell' = true) (j : Nat) (hj : j + vs.length ≤ n * sz) :
    Own (w.setCells g (off + j) vs) e sz (.slice (some ⟨g, off, none⟩) n cap) n (wr cs j vs) := by
  have hl := h.len
  refine ⟨by rw [wr_len _ _ _ (by omega)]; exact hl, fun v hv => ?_, ?_⟩
  · unfold wr at hv
    rcases List.mem_append.1 hv with hv | hv
    · rcases List.mem_append.1 hv with hv | hv
      · exact h.one v (List.mem_of_mem_take hv)
      · exact h1 v hv
    · exact h.one v (List.mem_of_mem_drop hv)
  rcases h.val with ⟨hv, _⟩ | ⟨g', off', cap', arr, hv, hb, h2, h3, h4, h5⟩
  · cases hv
  · cases hv
    have hle : n * sz ≤ cap * sz := Nat.mul_le_mul_right _ h2
    refine .inr ⟨g, off, cap, _, rfl, hb.setCells vs w arr (off + j), h2, h3, by rw [writeAt_size]; exact h4, ?_⟩
    apply List.ext_getElem?
    intro i
    have hw := writeAt_get vs arr (off + j) (off + i) (by omega)
    rw [wr_get _ _ _ _ (by omega), ← h5]
    simp only [List.getElem?_take, List.getElem?_drop, Array.getElem?_toList, hw]
    by_cases hi : i < n * sz
    · rw [if_pos hi, if_pos hi]
      by_cases hij : j ≤ i ∧ i < j + vs.length
      · rw [if_pos (by omega), if_pos hij]; congr 1; omega
      · rw [if_neg (by omega), if_neg hij]
    · rw [if_neg hi, if_neg hi, if_neg (by omega)]
section
variable {P : Program} {N : Nat} {F : FE} {As L L0 : List SA} {o : Oper} {x y z : Operand} {v : Value}
/-- several cells stored through a slice of one's own -/
theorem X.storeOwnA {t e sz n cap g off q j m : Nat} {cs : List Value} {vs : Array Value} (ho : o.op = .store t x y) (hs : (P.info? t).map (·.size) = some m) (hmm : vs.size = m) (hx : evO F x = some (.pointer (some ⟨g, q, none⟩))) (hq : q = off + j) (hy : evO F y = some (.agg vs)) (h1 : ∀ v ∈ vs.toList, v.oneCell' = true)
    (hp : Pull (SA.owns e sz (.slice (some ⟨g, off, none⟩) n cap) n cs) L L0) {cs' : List Value} (hj : j + m ≤ n * sz) (he' : wr cs j vs.toList = cs') : Eff P N o F L (fun _ L' => L' = SA.owns e sz (.slice (some ⟨g, off, none⟩) n cap) n cs' :: L0) := by
  refine ⟨by rw [ho]; simp, fun Y a w ha hw K Q hK => ?_⟩
  subst he'; subst hq; subst hmm
  unfold Oper.wp execOp; rw [ho]
  replace hx := ha.eval hx
  replace hy := ha.eval hy
  simp only [hx, hy]
  have hst := (Pull.there (B := Y) hp).st hw
  have hO := hst.isOwn
  obtain ⟨inf, hinf, he⟩ := Option.map_eq_some_iff.1 hs
  have hlv : vs.toList.length = vs.size := by simp
  obtain ⟨arr, hb, hsz⟩ : ∃ arr, Blk w g arr e ∧ off + n * sz ≤ arr.size := by
    rcases hO.val with ⟨hv, _⟩ | ⟨g', off', cap', arr, hv, hb1, h2, _, e3, _⟩
    · cases hv
    · cases hv
      have := Nat.mul_le_mul_right sz h2
      exact ⟨arr, hb1, by omega⟩
  have hrun := run_storeCells_cells (P := P) g (off + j) vs.toList 0 w (fun i hi => by rw [hb.cell]; simp at hi ⊢; omega) (fun i hi => hb.frozen _) h1
  have hall : (Instr.storeAt t (.pointer (some ⟨g, off + j, none⟩)) (.agg vs)).run P w = .ok () (w.setCells g (off + j) vs.toList) := by
    unfold Instr.storeAt Instr.sureAddr storeVar
    simp only [Nat.add_zero] at hrun
    simp [sizeOf, typeInfo, hinf, he, Value.cells, hrun, go_sem]
  generalize Instr.storeAt t _ _ = s at hall ⊢
  simp [hall, go_sem]
  have hfin := hO.within vs.toList h1 j (by omega)
  exact hK _ _ _ rfl (St.up1 (hst.frS (S := [g]) (Fr.setCells _ _ _ (Fr.refl _ _) (by simp)) fun O R hA => ⟨fun k hk => hA.1 k (by simpa [own] using hk), O, R, ⟨fun k hk => hA.1 k (by simpa [own] using hk), hfin⟩, fun k hk => .inl hk, fun k hk => .inr (.inl hk)⟩))
end
theorem wr_mid (a b c c' d : List Value) (h : c.length = c'.length) : wr (a ++ (b ++ c) ++ d) (a.length + b.length) c' = a ++ (b ++ c') ++ d := by
  unfold wr
  have e1 : a ++ (b ++ c) ++ d = (a ++ b) ++ (c ++ d) := by simp [List.append_assoc]
  rw [e1, ← List.length_append, List.take_left, ← h, show (a ++ b).length + c.length = ((a ++ b) ++ c).length by simp [Nat.add_assoc], ← List.append_assoc (a ++ b) c d, List.drop_left]
  simp [List.append_assoc]
theorem set_wr (cs : List Value) (j : Nat) (v : Value) (h : j < cs.length) : cs.set j v = wr cs j [v] := by
  rw [wr, List.set_eq_take_append_cons_drop, if_pos h]; simp
theorem split_at {α : Type} {l : List α} {k : Nat} {x : α} (hx : l[k]? = some x) : l = l.take k ++ x :: l.drop (k + 1) := by
  obtain ⟨hi, he⟩ := List.getElem?_eq_some_iff.1 hx
  rw [← he, List.getElem_cons_drop, List.take_append_drop]
theorem set_at {α : Type} {l : List α} {k : Nat} {x : α} (y : α) (hx : l[k]? = some x) : l.set k y = l.take k ++ y :: l.drop (k + 1) := by
  obtain ⟨hi, he⟩ := List.getElem?_eq_some_iff.1 hx
  rw [List.set_eq_take_append_cons_drop, if_pos hi]
/-- the second half of an element, written over -/
theorem Dat.cs_snd {α β : Type} [Dat α] [Dat β] {l : List (α × β)} {k : Nat} {q : α} {y x : β} (hx : l[k]? = some (q, y)) : wr (Dat.cs l) (k * Dat.sz (α × β) + Dat.sz α) (Dat.c x) = Dat.cs (l.set k (q, x)) := by
  have hk : (l.take k).length = k := by have := (List.getElem?_eq_some_iff.1 hx).1; rw [List.length_take]; omega
  have e0 : Dat.cs l = Dat.cs (l.take k) ++ (Dat.c q ++ Dat.c y) ++ Dat.cs (l.drop (k + 1)) := by
    conv => lhs; rw [split_at hx]
    rw [Dat.cs_app, show (q, y) :: l.drop (k + 1) = [(q, y)] ++ l.drop (k + 1) from rfl, Dat.cs_app, Dat.cs_one, ← List.append_assoc]; rfl
  have e1 : Dat.cs (l.set k (q, x)) = Dat.cs (l.take k) ++ (Dat.c q ++ Dat.c x) ++ Dat.cs (l.drop (k + 1)) := by
    rw [set_at _ hx, Dat.cs_app, show (q, x) :: l.drop (k + 1) = [(q, x)] ++ l.drop (k + 1) from rfl, Dat.cs_app, Dat.cs_one, ← List.append_assoc]; rfl
  have e2 : k * Dat.sz (α × β) + Dat.sz α = (Dat.cs (l.take k)).length + (Dat.c q).length := by rw [Dat.cs_len, hk, Dat.len]
  rw [e0, e1, e2, wr_mid _ _ _ _ _ (by rw [Dat.len, Dat.len])]
/-- an element, written over -/
theorem Dat.cs_set {α : Type} [Dat α] {l : List α} {k : Nat} {y x : α} (hx : l[k]? = some y) : wr (Dat.cs l) (k * Dat.sz α) (Dat.c x) = Dat.cs (l.set k x) := by
  have hk : (l.take k).length = k := by have := (List.getElem?_eq_some_iff.1 hx).1; rw [List.length_take]; omega
  have e0 : Dat.cs l = Dat.cs (l.take k) ++ ([] ++ Dat.c y) ++ Dat.cs (l.drop (k + 1)) := by
    conv => lhs; rw [split_at hx]
    rw [Dat.cs_app, show y :: l.drop (k + 1) = [y] ++ l.drop (k + 1) from rfl, Dat.cs_app, Dat.cs_one, ← List.append_assoc]; rfl
  have e1 : Dat.cs (l.set k x) = Dat.cs (l.take k) ++ ([] ++ Dat.c x) ++ Dat.cs (l.drop (k + 1)) := by
    rw [set_at _ hx, Dat.cs_app, show x :: l.drop (k + 1) = [x] ++ l.drop (k + 1) from rfl, Dat.cs_app, Dat.cs_one, ← List.append_assoc]; rfl
  have e2 : k * Dat.sz α = (Dat.cs (l.take k)).length + ([] : List Value).length := by rw [Dat.cs_len, hk]; rfl
  rw [e0, e1, e2, wr_mid _ _ _ _ _ (by rw [Dat.len, Dat.len])]
theorem Dat.cs_drop {α : Type} [Dat α] (l : List α) (k : Nat) : Dat.cs (l.drop k) = (Dat.cs l).drop (k * Dat.sz α) := by
  have h : Dat.cs l = Dat.cs (l.take k) ++ Dat.cs (l.drop k) := by rw [← Dat.cs_app, List.take_append_drop]
  by_cases hk : k ≤ l.length
  · have hl : (Dat.cs (l.take k)).length = k * Dat.sz α := by rw [Dat.cs_len, List.length_take, Nat.min_eq_left hk]
    rw [h, ← hl, List.drop_left]
  · rw [List.drop_of_length_le (by omega), List.drop_of_length_le (by rw [Dat.cs_len]; exact Nat.mul_le_mul_right _ (by omega)), Dat.cs_eq]; rfl
theorem Cel.atS {α : Type} [Dat α] {As : List SA} {A : SA} {g off n cap i : Nat} {l : List α} {x : α} {v : Value} (hA : Reads A 1 (.slice (some ⟨g, off, none⟩) n cap) n (Dat.cs l)) (h : In A As) (hx : l[i]? = some x) (hv : (Dat.c x)[0]? = some v) (hs : Dat.sz α = 1 := by rfl) : Cel As ⟨g, off + i, none⟩ v := by
  have := Cel.at0 hA h hx hv hs
  rwa [Nat.mul_one] at this
theorem beqB (a b : ByteArray) : (a == b) = decide (a = b) := by
  rw [Bool.eq_iff_iff, decide_eq_true_eq]
  constructor
  · intro h
    have h2 : (a.data == b.data) = true := h
    have := eq_of_beq h2
    cases a; cases b; simp_all
  · rintro rfl
    show (a.data == a.data) = true
    exact beq_self_eq_true _
instance : LawfulBEq ByteArray where
  eq_of_beq {a b} h := by rw [beqB] at h; simpa using h
  rfl {a} := by rw [beqB]; simp
section
variable {P : Program} {N : Nat} {F : FE} {As : List SA} {o : Oper} {x y : Operand}
theorem toList_beq (a b : ByteArray) : (a.toList == b.toList) = (a == b) := by
  rw [beqB, Bool.eq_iff_iff, beq_iff_eq, decide_eq_true_eq]
  constructor
  · intro h
    have h1 := ByteArray.toList_eq a; have h2 := ByteArray.toList_eq b
    rw [h1, h2] at h
    cases a; cases b; simp_all
  · rintro rfl; rfl
theorem Y.cmpB {t yt : Nat} {a b : ByteArray} {neg : Bool} (ho : o.op = .binOp (if neg then .neq else .eql) t x y yt) (hx : evO F x = some (.string a)) (hy : evO F y = some (.string b)) : Yld P N o F As (.bool (if neg then !(a == b) else (a == b))) := fun c w ha _ => by
  unfold execOp; rw [ho]
  replace hx := ha.eval hx
  replace hy := ha.eval hy
  generalize c.eval = ρ at hx hy ⊢
  cases neg
  · simp [hx, hy, eqGuard, binOp, Op.stringOp, toList_beq, go_sem]
  · simp [hx, hy, eqGuard, binOp, Op.stringOp, toList_beq, go_sem]
theorem Y.eqB {t yt : Nat} {a b : ByteArray} (ho : o.op = .binOp .eql t x y yt) (hx : evO F x = some (.string a)) (hy : evO F y = some (.string b)) : Yld P N o F As (.bool (a == b)) := Y.cmpB (neg := false) ho hx hy
theorem Y.neB {t yt : Nat} {a b : ByteArray} (ho : o.op = .binOp .neq t x y yt) (hx : evO F x = some (.string a)) (hy : evO F y = some (.string b)) : Yld P N o F As (.bool (!(a == b))) := Y.cmpB (neg := true) ho hx hy
end
theorem Cels.snd {α β : Type} [Dat α] [Dat β] {As : List SA} {A : SA} {g off n cap sz i : Nat} {l : List (α × β)} {q : α} {y : β} (hA : Reads A sz (.slice (some ⟨g, off, none⟩) n cap) n (Dat.cs l)) (h : In A As) (hx : l[i]? = some (q, y)) (h1 : Dat.sz α = 1) (hs : Dat.sz (α × β) = sz := by rfl) : Cels As ⟨g, off + (i * sz + 1), none⟩ (Dat.c y) := fun w hw j u hj => by
  have hk : (Dat.c (q, y))[1 + j]? = some u := by
    show (Dat.c q ++ Dat.c y)[1 + j]? = some u
    rw [List.getElem?_append_right (by rw [Dat.len]; omega), Dat.len, h1, show 1 + j - 1 = j by omega]; exact hj
  have := Cel.at hA h hx hk hs w hw
  rw [Addr.add_lit, Nat.add_assoc, Nat.add_assoc]; exact this
theorem br_rem8 {x y : UInt8} (h : y ≠ 0) : BR .rem .u8 x.toNat .u8 y.toNat (v8 (x % y)) := fun P w t => by
  have h0 : y.toNat ≠ 0 := fun e => h (UInt8.toNat_inj.1 e)
  simp [binOp, Op.intDiv, h0, go_sem]
  try rw [Int.tmod_eq_emod_of_nonneg (by omega)]
  try rfl
/-- an int32 -/
structure J32 where
  n : Int
instance : Dat J32 := Dat.scalar (fun x => .int .i32 x.n) ⟨0⟩ fun _ => rfl
theorem Ent.rdss0' {gs : List G} {L : List SA} (h : gs = []) : Ent L (SA.rdss gs :: L) := by rw [h]; exact Ent.rdss0
theorem Ent.exI {α : Type} {f : α → SA} {L L' : List SA} (h : ∀ x, Ent (f x :: L) L') : Ent (SA.ex f :: L) L' := fun w O R hp => by
  obtain ⟨O1, R1, O2, R2, ⟨x, hx⟩, hL, r⟩ := hp
  exact h x w O R ⟨O1, R1, O2, R2, hx, hL, r⟩
/-- bytes of one's own, from now on read -/
theorem Ent.bytesD {e : Nat} {a : Option Addr} {n cap : Nat} {l : List UInt8} {L L1 : List SA} (h : Pull (SA.owns e 1 (.slice a n cap) n (l.map v8)) L L1) (hn : l.length = n) : Ent L (SA.dat (⟨a, cap, l⟩ : Bs) :: L1) := h.ent.trans (Ent.freeze.trans (Ent.mkBytes hn))
/-- scalars of one's own, from now on read -/
theorem Ent.scalD {α : Type} [Dat α] {e : Nat} {a : Option Addr} {n cap : Nat} {l : List α} {L L1 : List SA} (h : Pull (SA.owns e 1 (.slice a n cap) n (Dat.cs l)) L L1) (hn : l.length = n) (hs : Dat.sz α = 1) (hg : ∀ x : α, Dat.g x = []) : Ent L (SA.dat (⟨a, cap, l⟩ : Sl α) :: L1) := by
  have e0 : l.flatMap Dat.g = [] := by rw [List.flatMap_eq_nil_iff]; intro x _; exact hg x
  refine h.ent.trans (Ent.freeze.trans ((Ent.under _ (Ent.rdss0' e0)).trans (Ent.mkSl hn hs rfl)))
/-- two that are read, as a pair -/
theorem Ent.pairD {α β : Type} [Dat α] [Dat β] {x : α} {y : β} {L L1 L2 : List SA} (h1 : Pull (SA.dat x) L L1) (h2 : Pull (SA.dat y) L1 L2) : Ent L (SA.dat (x, y) :: L2) := h1.ent.trans ((h2.ent.under _).trans Ent.rdssApp)
/-- no bytes -/
theorem Ent.nilBs {L : List SA} : Ent L (SA.dat (⟨none, 0, []⟩ : Bs) :: L) := (Ent.nilOwn 0 1).trans (Ent.freeze.trans (Ent.mkBytes (l := []) rfl))
-- what lies under a key
theorem ne_take {κ ν : Type} {l : List (κ × ν)} {q : κ} {i : Nat} {x : κ × ν} (h : ∀ y ∈ l.take i, ¬ y.1 = q) (hx : l[i]? = some x) (hq : ¬ x.1 = q) : ∀ y ∈ l.take (i + 1), ¬ y.1 = q := by
  intro y hy
  rw [List.take_add_one, hx] at hy
  rcases List.mem_append.1 hy with hy | hy
  · exact h y hy
  · simp at hy; subst hy; exact hq
section
variable {κ ν : Type} [BEq κ]
def Fi (l : List (κ × ν)) (q : κ) : Option Nat := l.findIdx? fun e => e.1 == q
def iv (r : Option Nat) : Int := r.elim (-1) fun k => (k : Int)
def tput (most : Nat) (l : List (κ × ν)) (q : κ) (x : ν) : List (κ × ν) × Bool := match Fi l q with
  | some k => (l.set k (q, x), true)
  | none => if l.length = most then (l, false) else (l ++ [(q, x)], true)
def tget (d : ν) (l : List (κ × ν)) (q : κ) : ν × Bool := match l.find? (fun e => e.1 == q) with
  | some e => (e.2, true)
  | none => (d, false)
theorem Fi_some [LawfulBEq κ] {l : List (κ × ν)} {q : κ} {k : Nat} (h : Fi l q = some k) : k < l.length ∧ ∃ x, l[k]? = some (q, x) ∧ ∀ d, tget d l q = (x, true) := by
  obtain ⟨hk, hp, hj⟩ := List.findIdx?_eq_some_iff_getElem.1 h
  refine ⟨hk, l[k].2, ?_, fun d => ?_⟩
  · rw [List.getElem?_eq_getElem hk]; congr 1; exact Prod.ext (by simpa using hp) rfl
  · have : l.find? (fun e => e.1 == q) = some l[k] := by
      rw [List.find?_eq_some_iff_getElem]
      exact ⟨hp, k, hk, rfl, fun j hj' => by simpa using hj j hj'⟩
    unfold tget; rw [this]
theorem Fi_none {l : List (κ × ν)} {q : κ} (h : Fi l q = none) (d : ν) : tget d l q = (d, false) := by
  have : l.find? (fun e => e.1 == q) = none := by
    rw [List.find?_eq_none]
    intro e he
    have := List.findIdx?_eq_none_iff.1 h e he
    simp [this]
  unfold tget; rw [this]
theorem Fi_at [LawfulBEq κ] {l : List (κ × ν)} {q : κ} {k : Nat} {x : κ × ν} (h : ∀ y ∈ l.take k, ¬ y.1 = q) (hx : l[k]? = some x) (hq : x.1 = q) : Fi l q = some k := by
  obtain ⟨hk, hxe⟩ := List.getElem?_eq_some_iff.1 hx
  unfold Fi
  rw [List.findIdx?_eq_some_iff_getElem]
  refine ⟨hk, by rw [hxe]; simpa using hq, fun j hj => ?_⟩
  have := h (l[j]) (by rw [List.mem_take_iff_getElem]; exact ⟨j, by omega, rfl⟩)
  simpa using this
theorem Fi_no [LawfulBEq κ] {l : List (κ × ν)} {q : κ} (h : ∀ y ∈ l, ¬ y.1 = q) : Fi l q = none := by
  unfold Fi; rw [List.findIdx?_eq_none_iff]; intro y hy; simpa using h y hy
theorem tput_some {most : Nat} {l : List (κ × ν)} {q : κ} {x : ν} {k : Nat} (h : Fi l q = some k) : tput most l q x = (l.set k (q, x), true) := by unfold tput; rw [h]
theorem tput_full {most : Nat} {l : List (κ × ν)} {q : κ} {x : ν} (h : Fi l q = none) (hm : l.length = most) : tput most l q x = (l, false) := by unfold tput; rw [h]; exact if_pos hm
theorem tput_new {most : Nat} {l : List (κ × ν)} {q : κ} {x : ν} (h : Fi l q = none) (hm : ¬ l.length = most) : tput most l q x = (l ++ [(q, x)], true) := by unfold tput; rw [h]; exact if_neg hm
def tdrop (l : List (κ × ν)) (q : κ) : List (κ × ν) × Bool := match Fi l q with
  | some k => (l.eraseIdx k, true)
  | none => (l, false)
theorem tdrop_some {l : List (κ × ν)} {q : κ} {k : Nat} (h : Fi l q = some k) : tdrop l q = (l.eraseIdx k, true) := by unfold tdrop; rw [h]
theorem tdrop_none {l : List (κ × ν)} {q : κ} (h : Fi l q = none) : tdrop l q = (l, false) := by unfold tdrop; rw [h]
theorem tput_len {most : Nat} {l : List (κ × ν)} {q : κ} {x : ν} (h : l.length ≤ most) : (tput most l q x).1.length ≤ most := by
  unfold tput
  split
  · simpa using h
  · split
    · exact h
    · simp; omega
end
end Go.Proofs.Ytomplpdeeomehaa
