/- A library of words on memory, over any program: blocks, frames, slices that are read, slices that are owned; append, for the walk. No program is named. -/
import Derived.WalkKit
import Derived.Deep.AppendSrc
import Derived.Lib.Hide
import Derived.Deep.Quiet
namespace Go.Proofs.Ytomplpdeeomehaa
set_option linter.unusedVariables false
set_option linter.unusedSimpArgs false
open Go.RowKit

/-- BLOCK b HOLDS THESE CELLS. -/
def Blk (w : World) (b : Nat) (cs : Array Value) (t : TypeId) : Prop := w.heap[b]? = some (.cells cs t (0, 0))
theorem Blk.heap {w : World} {b : Nat} {cs : Array Value} {t : TypeId} (h : Blk w b cs t) : w.heap[b]? = some (.cells cs t (0, 0)) := h
theorem Blk.cell {w : World} {b : Nat} {cs : Array Value} {t : TypeId} (h : Blk w b cs t) (i : Nat) : w.cell? ⟨b, i, none⟩ = cs[i]? := by
  have := h.heap; simp [World.cell?, this]
theorem Blk.frozen {w : World} {b : Nat} {cs : Array Value} {t : TypeId} (h : Blk w b cs t) (i : Nat) : w.frozen? ⟨b, i, none⟩ = false := by
  have := h.heap; simp [World.frozen?, this]
theorem Blk.lt {w : World} {b : Nat} {cs : Array Value} {t : TypeId} (h : Blk w b cs t) : b < w.heap.size := (Array.getElem?_eq_some_iff.1 h.heap).1
theorem Blk.new (w : World) (cs : Array Value) (t : TypeId) : Blk (w.alloc (.cells cs t)) w.heap.size cs t := heap_alloc_new w _
theorem Blk.alloc' {w : World} {b : Nat} {cs : Array Value} {t : TypeId} (h : Blk w b cs t) (o : Obj) : Blk (w.alloc o) b cs t := (Below.heap_alloc _ _ _ (Array.getElem?_eq_some_iff.1 h.heap).1).trans h
theorem Blk.drew {w : World} {b : Nat} {cs : Array Value} {t : TypeId} (h : Blk w b cs t) : Blk w.drew b cs t := h
theorem Blk.set {w : World} {b : Nat} {cs : Array Value} {t : TypeId} (h : Blk w b cs t) (i : Nat) (v : Value) : Blk (w.setCell ⟨b, i, none⟩ v) b (cs.setIfInBounds i v) t := by
  have h := h.heap
  obtain ⟨hlt, hv⟩ := Array.getElem?_eq_some_iff.1 h
  show (w.heap.modify b _)[b]? = _
  rw [Array.getElem?_eq_getElem (by simpa using hlt), Array.getElem_modify_self, hv]
  rfl
theorem Blk.drewN {w : World} {b : Nat} {cs : Array Value} {t : TypeId} (h : Blk w b cs t) (k : Nat) : Blk (w.drewN k) b cs t := h
theorem Blk.uniq {w : World} {b : Nat} {cs cs' : Array Value} {t t' : TypeId} (h : Blk w b cs t) (h' : Blk w b cs' t') : cs = cs' ∧ t = t' := by
  have := h.heap.symm.trans h'.heap
  simp at this; exact this

/-- w' IS w WITH NEW BLOCKS, AND WITH WRITES TO THE BLOCKS OF S ALONE. -/
structure Fr (S : List Nat) (w w' : World) : Prop where
  os : w'.os = w.os
  tape : w'.tape = w.tape
  output : w'.output = w.output
  size : w.heap.size ≤ w'.heap.size
  block : ∀ k, k < w.heap.size → k ∉ S → w'.heap[k]? = w.heap[k]?
theorem Fr.refl (S : List Nat) (w : World) : Fr S w w := ⟨rfl, rfl, rfl, Nat.le_refl _, fun _ _ _ => rfl⟩
theorem Fr.trans {S S' T : List Nat} {a b c : World} (h : Fr S a b) (k : Fr S' b c) (hT : ∀ x, x < a.heap.size → x ∈ S ∨ x ∈ S' → x ∈ T) : Fr T a c :=
  ⟨k.os.trans h.os, k.tape.trans h.tape, k.output.trans h.output, Nat.le_trans h.size k.size, fun x hx hn =>
    (k.block x (Nat.lt_of_lt_of_le hx h.size) (fun e => hn (hT x hx (.inr e)))).trans (h.block x hx (fun e => hn (hT x hx (.inl e))))⟩
theorem Fr.mono {S T : List Nat} {a b : World} (h : Fr S a b) (hT : ∀ x, x < a.heap.size → x ∈ S → x ∈ T) : Fr T a b :=
  ⟨h.os, h.tape, h.output, h.size, fun x hx hn => h.block x hx (fun e => hn (hT x hx e))⟩
theorem Fr.blk {S : List Nat} {a b : World} (h : Fr S a b) {x : Nat} {cs : Array Value} {t : TypeId} (hb : Blk a x cs t) (hn : x ∉ S) : Blk b x cs t :=
  (h.block x hb.lt hn).trans hb
theorem Fr.drew {S : List Nat} {a b : World} (h : Fr S a b) : Fr S a b.drew := ⟨h.os, h.tape, h.output, h.size, h.block⟩
theorem Fr.drewN {S : List Nat} {a b : World} (h : Fr S a b) (k : Nat) : Fr S a (b.drewN k) := ⟨h.os, h.tape, h.output, h.size, h.block⟩
theorem Fr.alloc {S : List Nat} {a b : World} (h : Fr S a b) (o : Obj) : Fr S a (b.alloc o) :=
  ⟨h.os, h.tape, h.output, by have := h.size; simp; omega, fun x hx hn => (Below.heap_alloc _ _ _ (Nat.lt_of_lt_of_le hx h.size)).trans (h.block x hx hn)⟩
theorem Fr.set {S : List Nat} {a b : World} (h : Fr S a b) {p : Addr} (hp : p.block ∈ S ∨ a.heap.size ≤ p.block) (v : Value) : Fr S a (b.setCell p v) :=
  ⟨h.os, h.tape, h.output, by have := h.size; simp; omega, fun x hx hn => (Below.heap_setCell _ _ _ _ (by
    intro e; subst e
    rcases hp with hp | hp
    · exact hn hp
    · omega)).trans (h.block x hx hn)⟩
theorem Fr.below {S : List Nat} {a b : World} {B : Nat} (h : Fr S a b) (hB : B ≤ a.heap.size) (hS : ∀ x ∈ S, B ≤ x) : Below B a b :=
  ⟨h.os, h.tape, h.output, h.size, fun k hk => h.block k (Nat.lt_of_lt_of_le hk hB) (fun e => by have := hS k e; omega)⟩
theorem Fr.ofBelow {a b : World} (h : Below a.heap.size a b) : Fr [] a b := ⟨h.os, h.tape, h.output, h.size, fun k hk _ => h.block k hk⟩
theorem Fr.grownBy {a b : World} {r : Option Nat} (h : a.grownBy b r) : Fr r.toList a b := ⟨h.os, h.tape, h.output, h.size, fun k hk hn => h.block k hk (fun e => hn (by simp [← e]))⟩
theorem Fr.cell {S : List Nat} {a b : World} (h : Fr S a b) {p : Addr} (hp : p.block < a.heap.size) (hn : p.block ∉ S) : b.cell? p = a.cell? p := World.cell?_of_block (w := a) (h.block _ hp hn)
theorem Fr.frozen {S : List Nat} {a b : World} (h : Fr S a b) {p : Addr} (hp : p.block < a.heap.size) (hn : p.block ∉ S) : b.frozen? p = a.frozen? p := World.frozen?_of_block (w := a) (h.block _ hp hn)

theorem cells_one {v : Value} (h : v.oneCell' = true) : v.cells.toList = [v] := by cases v <;> first | rfl | simp [Value.oneCell'] at h
/-- The blocks of a slice value. -/
def own : Value → List Nat
  | .slice (some a) _ _ => [a.block]
  | _ => []

/-- A SLICE THAT CAN BE READ: n elements, sz cells each: cs. -/
structure Rd (w : World) (sz : Nat) (v : Value) (n : Nat) (cs : List Value) : Prop where
  len : cs.length = n * sz
  one : ∀ u ∈ cs, u.oneCell' = true
  val : ∃ a cap, v = .slice a n cap ∧ n ≤ cap ∧ cap ≤ maxLen ∧ (a = none → n = 0 ∧ cap = 0) ∧ ∀ b, a = some b → ∀ j u, cs[j]? = some u → w.cell? (b.add j) = some u

/-- A SLICE OF ONE's OWN: its block is written by nobody else. -/
structure Own (w : World) (e : TypeId) (sz : Nat) (v : Value) (n : Nat) (cs : List Value) : Prop where
  len : cs.length = n * sz
  one : ∀ u ∈ cs, u.oneCell' = true
  val : (v = .slice none 0 0 ∧ n = 0) ∨ ∃ g off cap arr, v = .slice (some ⟨g, off, none⟩) n cap ∧ Blk w g arr e ∧ n ≤ cap ∧ cap ≤ maxLen ∧ off + cap * sz ≤ arr.size ∧ (arr.toList.drop off).take (n * sz) = cs

theorem Own.nil (w : World) (e : TypeId) (sz : Nat) : Own w e sz (.slice none 0 0) 0 [] := ⟨by simp, by simp, .inl ⟨rfl, rfl⟩⟩

section
variable {w : World} {e : TypeId} {sz : Nat} {v : Value} {n : Nat} {cs : List Value}
theorem Own.lt (h : Own w e sz v n cs) : ∀ k ∈ own v, k < w.heap.size := by
  intro k hk
  rcases h.val with ⟨rfl, _⟩ | ⟨g, off, cap, arr, rfl, hb, _⟩
  · simp [own] at hk
  · simp [own] at hk; subst hk; exact hb.lt
theorem Own.shape (h : Own w e sz v n cs) : ∃ a cap, v = .slice a n cap ∧ n ≤ cap ∧ cap ≤ maxLen := by
  rcases h.val with ⟨rfl, rfl⟩ | ⟨g, off, cap, arr, rfl, hb, hc, hm, _⟩
  · exact ⟨_, _, rfl, by simp, by simp⟩
  · exact ⟨_, _, rfl, hc, hm⟩
theorem Own.pos (h : Own w e sz v n cs) (hn : 0 < n) : ∃ g off cap, v = .slice (some ⟨g, off, none⟩) n cap ∧ n ≤ cap ∧ cap ≤ maxLen := by
  rcases h.val with ⟨rfl, rfl⟩ | ⟨g, off, cap, arr, rfl, hb, hc, hm, _⟩
  · omega
  · exact ⟨_, _, _, rfl, hc, hm⟩
theorem Own.kept {w' : World} {S : List Nat} (h : Own w e sz v n cs) (hf : Fr S w w') (hd : ∀ k ∈ own v, k ∉ S) : Own w' e sz v n cs := by
  refine ⟨h.len, h.one, ?_⟩
  rcases h.val with hn | ⟨g, off, cap, arr, rfl, hb, r⟩
  · exact .inl hn
  · exact .inr ⟨g, off, cap, arr, rfl, hf.blk hb (hd g (by simp [own])), r⟩
theorem Own.drew (h : Own w e sz v n cs) : Own w.drew e sz v n cs := ⟨h.len, h.one, h.val⟩
theorem Own.drewN (h : Own w e sz v n cs) (k : Nat) : Own (w.drewN k) e sz v n cs := ⟨h.len, h.one, h.val⟩
theorem Own.alloc (h : Own w e sz v n cs) (o : Obj) : Own (w.alloc o) e sz v n cs := h.kept ((Fr.refl [] w).alloc o) (by simp)
theorem Own.cells (h : Own w e sz v n cs) {g off cap : Nat} {m : Nat} (hv : v = .slice (some ⟨g, off, none⟩) m cap) : ∀ j u, cs[j]? = some u → w.cell? ⟨g, off + j, none⟩ = some u := by
  intro j u hu
  rcases h.val with ⟨rfl, _⟩ | ⟨g', off', cap', arr, rfl, hb, _, _, _, ht⟩
  · cases hv
  · cases hv
    rw [hb.cell]
    rw [← ht, List.getElem?_take] at hu
    split at hu
    · simpa using hu
    · cases hu
theorem Own.rd (h : Own w e sz v n cs) : Rd w sz v n cs := by
  refine ⟨h.len, h.one, ?_⟩
  rcases h.val with ⟨rfl, rfl⟩ | ⟨g, off, cap, arr, hv, hb, hc, hm, _⟩
  · exact ⟨none, 0, rfl, by simp, by simp, by simp, by simp⟩
  · refine ⟨some ⟨g, off, none⟩, cap, hv, hc, hm, by simp, ?_⟩
    rintro b hb' j u hu
    cases hb'
    rw [Addr.add_lit]
    exact h.cells hv j u hu
theorem Rd.kept {w' : World} {S : List Nat} (h : Rd w sz v n cs) (hf : Fr S w w') (hd : ∀ k ∈ own v, k ∉ S) : Rd w' sz v n cs := by
  obtain ⟨a, cap, rfl, h1, h2, h3, h4⟩ := h.val
  refine ⟨h.len, h.one, a, cap, rfl, h1, h2, h3, fun b hb j u hu => ?_⟩
  have hc := h4 b hb j u hu
  have hbl : (b.add j).block = b.block := by unfold Addr.add; split <;> rfl
  rw [hf.cell (by have := World.block_lt_of_cell? w _ hc; exact this) (by rw [hbl]; exact hd _ (by simp [hb, own]))]
  exact hc
theorem Rd.drew (h : Rd w sz v n cs) : Rd w.drew sz v n cs := ⟨h.len, h.one, h.val⟩
theorem Rd.drewN (h : Rd w sz v n cs) (k : Nat) : Rd (w.drewN k) sz v n cs := ⟨h.len, h.one, h.val⟩
theorem Rd.shape (h : Rd w sz v n cs) : ∃ a cap, v = .slice a n cap ∧ n ≤ cap ∧ cap ≤ maxLen := let ⟨a, c, h1, h2, h3, _⟩ := h.val; ⟨a, c, h1, h2, h3⟩
theorem Rd.src {P : Program} {tx e' : TypeId} (h : Rd w sz v n cs) (hk : P.underlying tx = some (.slice e')) : Src P sz tx v n cs w := by
  obtain ⟨a, cap, rfl, h1, h2, h3, h4⟩ := h.val
  cases a with
  | some b => exact Src.ofSlice w hk b n cap cs h.len (h4 b rfl) h.one
  | none =>
    obtain ⟨rfl, rfl⟩ := h3 rfl
    obtain rfl : cs = [] := List.eq_nil_of_length_eq_zero (by simpa using h.len)
    exact Src.ofNil w hk 0
/-- A new row, whole. -/
theorem Own.new (w : World) (e : TypeId) (sz n : Nat) (cs : Array Value) (hl : cs.size = n * sz) (h1 : ∀ u ∈ cs.toList, u.oneCell' = true) (hm : n ≤ maxLen) :
    Own (w.alloc (.cells cs e)) e sz (.slice (some ⟨w.heap.size, 0, none⟩) n n) n cs.toList :=
  ⟨by simpa using hl, h1, .inr ⟨_, 0, n, cs, rfl, Blk.new w cs e, Nat.le_refl _, hm, by omega, by rw [List.drop_zero]; exact List.take_of_length_le (by simp [hl])⟩⟩
end

/-- 's[k:]' -/
def dropV : Value → Nat → Nat → Value
  | .slice a n cap, k, sz => .slice (if cap = k then a else a.map (·.add (k * sz))) (n - k) (cap - k)
  | v, _, _ => v
/-- 's[:k]' -/
def takeV : Value → Nat → Value
  | .slice a _ cap, k => .slice a k cap
  | v, _ => v
theorem add_block (a : Addr) (n : Nat) : (a.add n).block = a.block := by unfold Addr.add; split <;> rfl
section
variable {w : World} {e : TypeId} {sz : Nat} {v : Value} {n : Nat} {cs : List Value}
theorem own_dropV (h : Own w e sz v n cs) (k : Nat) : own (dropV v k sz) = own v := by
  rcases h.val with ⟨rfl, rfl⟩ | ⟨g, off, cap, arr, rfl, hb, r⟩
  · simp [dropV, own]
  · simp only [dropV]
    split <;> simp [own, add_block]
theorem own_takeV (h : Own w e sz v n cs) (k : Nat) : own (takeV v k) = own v := by
  rcases h.val with ⟨rfl, rfl⟩ | ⟨g, off, cap, arr, rfl, hb, r⟩ <;> simp [takeV, own]
theorem Own.take (h : Own w e sz v n cs) {k : Nat} (hk : k ≤ n) : Own w e sz (takeV v k) k (cs.take (k * sz)) := by
  have hl := h.len
  have hm : k * sz ≤ n * sz := Nat.mul_le_mul_right _ hk
  refine ⟨by simp; omega, fun u hu => h.one u (List.mem_of_mem_take hu), ?_⟩
  rcases h.val with ⟨rfl, rfl⟩ | ⟨g, off, cap, arr, rfl, hb, h1, h2, h3, h4⟩
  · obtain rfl : k = 0 := by omega
    exact .inl ⟨rfl, rfl⟩
  · exact .inr ⟨g, off, cap, arr, rfl, hb, by omega, h2, h3, by rw [← h4, List.take_take, Nat.min_eq_left hm]⟩
theorem Own.drop (h : Own w e sz v n cs) {k : Nat} (hk : k ≤ n) : Own w e sz (dropV v k sz) (n - k) (cs.drop (k * sz)) := by
  have hl := h.len
  have hm : k * sz ≤ n * sz := Nat.mul_le_mul_right _ hk
  refine ⟨by simp [Nat.sub_mul]; omega, fun u hu => h.one u (List.mem_of_mem_drop hu), ?_⟩
  rcases h.val with ⟨rfl, rfl⟩ | ⟨g, off, cap, arr, rfl, hb, h1, h2, h3, h4⟩
  · obtain rfl : k = 0 := by omega
    exact .inl ⟨rfl, rfl⟩
  · right
    have hkc : k * sz ≤ cap * sz := Nat.mul_le_mul_right _ (by omega)
    by_cases hck : cap = k
    · have hnk : n = k := by omega
      refine ⟨g, off, 0, arr, by simp [dropV, hck], hb, by omega, by simp, by omega, ?_⟩
      subst hnk
      have hd : cs.drop (n * sz) = [] := List.drop_eq_nil_of_le (by omega)
      rw [hd]; simp
    · refine ⟨g, off + k * sz, cap - k, arr, by simp [dropV, hck, Addr.add_lit], hb, by omega, by omega, by rw [Nat.sub_mul]; omega, ?_⟩
      rw [← h4, List.drop_take, List.drop_drop, Nat.sub_mul]
theorem Rd.take (h : Rd w sz v n cs) {k : Nat} (hk : k ≤ n) : Rd w sz (takeV v k) k (cs.take (k * sz)) := by
  obtain ⟨a, cap, rfl, h1, h2, h3, h4⟩ := h.val
  have hl := h.len
  have hm : k * sz ≤ n * sz := Nat.mul_le_mul_right _ hk
  refine ⟨by simp; omega, fun u hu => h.one u (List.mem_of_mem_take hu), a, cap, rfl, by omega, h2, fun ha => by have := h3 ha; omega, fun b hb j u hu => h4 b hb j u ?_⟩
  rw [List.getElem?_take] at hu
  split at hu
  · exact hu
  · cases hu
theorem add_add (a : Addr) (i j : Nat) : (a.add i).add j = a.add (i + j) := by
  unfold Addr.add
  by_cases hi : i = 0
  · subst hi; simp
  · by_cases hj : j = 0
    · subst hj; simp [hi]
    · simp [hi, hj, Nat.add_assoc]
theorem Rd.drop (h : Rd w sz v n cs) {k : Nat} (hk : k ≤ n) : Rd w sz (dropV v k sz) (n - k) (cs.drop (k * sz)) := by
  obtain ⟨a, cap, rfl, h1, h2, h3, h4⟩ := h.val
  have hl := h.len
  have hm : k * sz ≤ n * sz := Nat.mul_le_mul_right _ hk
  refine ⟨by simp [Nat.sub_mul]; omega, fun u hu => h.one u (List.mem_of_mem_drop hu), _, cap - k, rfl, by omega, by omega, ?_, ?_⟩
  · intro ha
    have : a = none := by
      split at ha
      · exact ha
      · simpa using ha
    have := h3 this; omega
  · intro b hb j u hu
    rw [List.getElem?_drop] at hu
    by_cases hck : cap = k
    · exfalso
      have : n = k := by omega
      subst this
      rw [List.getElem?_eq_none (by omega)] at hu
      cases hu
    · rw [if_neg hck] at hb
      obtain ⟨b0, rfl, rfl⟩ := Option.map_eq_some_iff.1 hb
      rw [add_add]
      exact h4 b0 rfl _ _ hu
end

/-- The cells of a row, from place o on, written over. -/
def writeAt (arr : Array Value) : Nat → List Value → Array Value
  | _, [] => arr
  | o, v :: r => writeAt (arr.setIfInBounds o v) (o + 1) r
theorem writeAt_size (o : Nat) (vs : List Value) : ∀ arr : Array Value, (writeAt arr o vs).size = arr.size := by
  induction vs generalizing o with
  | nil => intro arr; rfl
  | cons v r ih => intro arr; simp [writeAt, ih]
theorem writeAt_get (vs : List Value) : ∀ (arr : Array Value) (o i : Nat), o + vs.length ≤ arr.size → (writeAt arr o vs)[i]? = if o ≤ i ∧ i < o + vs.length then vs[i - o]? else arr[i]? := by
  induction vs with
  | nil => intro arr o i _; simp [writeAt]; intro h1 h2; omega
  | cons v r ih =>
    intro arr o i h
    simp only [List.length_cons] at h ⊢
    rw [writeAt, ih _ _ _ (by simp; omega), Array.getElem?_setIfInBounds]
    by_cases h1 : i < o
    · rw [if_neg (by omega), if_neg (by omega), if_neg (by omega)]
    · by_cases h2 : i = o
      · subst h2
        rw [if_neg (by omega), if_pos rfl, if_pos (by omega), if_pos (by omega)]
        simp
      · by_cases h3 : i < o + 1 + r.length
        · rw [if_pos (by omega), if_pos (by omega)]
          rw [show i - o = (i - (o + 1)) + 1 by omega]
          simp
        · rw [if_neg (by omega), if_neg (by omega), if_neg (by omega)]
theorem Blk.setCells {b : Nat} {t : TypeId} (vs : List Value) : ∀ (w : World) (cs : Array Value) (o : Nat), Blk w b cs t → Blk (w.setCells b o vs) b (writeAt cs o vs) t := by
  induction vs with
  | nil => intro w cs o h; exact h
  | cons v r ih => intro w cs o h; exact ih _ _ _ (h.set o v)
theorem Fr.setCells {S : List Nat} {a : World} {b : Nat} (vs : List Value) : ∀ (w : World) (o : Nat), Fr S a w → (b ∈ S ∨ a.heap.size ≤ b) → Fr S a (w.setCells b o vs) := by
  induction vs with
  | nil => intro w o h _; exact h
  | cons v r ih => intro w o h hb; exact ih _ _ (h.set hb v) hb

/-- A slice's type t, its element's type e: e's cells, bytes and zero value. -/
structure Elt (P : Program) (t e sz bytes : Nat) (z : Value) : Prop where
  ht : P.underlying t = some (.slice e)
  hi : (P.info? e).map (fun i => (i.zero, i.size, i.bytes)) = some (some z, sz, bytes)
  hz : z.cells.size = sz
  pos : 0 < sz
  zone : ∀ u ∈ z.cells.toList, u.oneCell' = true

theorem firstCells_of {P : Program} {w : World} {sz n : Nat} {v : Value} {cs : List Value} (h : Rd w sz v n cs) : (Builtin.firstCells sz n v).run P w = .ok cs.toArray w := by
  obtain ⟨a, cap, rfl, h1, h2, h3, h4⟩ := h.val
  cases a with
  | some b => exact run_firstCells_some w sz n b n cap cs h.len (h4 b rfl)
  | none =>
    obtain ⟨rfl, rfl⟩ := h3 rfl
    obtain rfl : cs = [] := List.eq_nil_of_length_eq_zero (by simpa using h.len)
    exact run_firstCells_none w sz 0 0 0

theorem run_app {P : Program} {w : World} {t tx ty e sz bytes : Nat} {z : Value} (E : Elt P t e sz bytes z) {v x : Value} {n m : Nat} {cs news : List Value}
    (hown : Own w e sz v n cs) (hx : Src P sz tx x m news w) (b1 : n + m ≤ maxLen) (b2 : (n + m) * bytes ≤ 140737488355328) :
    ∃ v' w', (Builtin.append_ #[t, tx] ty #[v, x]).run P w = .ok v' w' ∧ Own w' e sz v' (n + m) (cs ++ news) ∧ Fr (own v) w w' ∧ (∀ k ∈ own v', k ∈ own v ∨ w.heap.size ≤ k) ∧ (v' = .slice none 0 0 ↔ v = .slice none 0 0 ∧ m = 0) := by
  obtain ⟨i, hi, hz0, rfl, rfl⟩ := info_parts E.hi
  have hlen : (cs ++ news).length = (n + m) * i.size := by rw [List.length_append, hown.len, hx.newsLen, Nat.add_mul]
  have hone : ∀ u ∈ cs ++ news, u.oneCell' = true := fun u hu => (List.mem_append.1 hu).elim (hown.one u) (hx.one u)
  obtain ⟨a, cap, hv, hnc, hcm⟩ := hown.shape
  have hsmall : n + m ≤ 9223372036854775807 := by simp only [maxLen] at b1; omega
  by_cases hroom : n + m ≤ cap
  · rcases hown.val with ⟨rfl, rfl⟩ | ⟨g, off, cap', arr, rfl, hb, h1, h2, h3, h4⟩
    · cases hv
      obtain rfl : m = 0 := by omega
      obtain rfl : news = [] := List.eq_nil_of_length_eq_zero (by simpa using hx.newsLen)
      refine ⟨.slice none 0 0, w, ?_, by simpa using hown, Fr.refl _ _, fun k hk => .inl hk, by simp⟩
      have hc := hx.cells
      rcases hx.kind with ⟨e', hk⟩ | hk <;>
        simp [Builtin.append_, run_underlying E.ht, run_underlying hk, sizeOf, typeInfo, hi, hx.len, hc]
    · cases hv
      have hfit : (n + m) * i.size ≤ cap * i.size := Nat.mul_le_mul_right _ hroom
      have hnl := hx.newsLen
      rw [Nat.add_mul] at hfit
      have hr := run_append_room_src (P := P) w t tx ty e i E.ht hi g off n cap x m news hx hroom
        (fun j hj => by rw [hb.cell]; simp; omega) (fun j _ => hb.frozen _)
      refine ⟨_, _, hr, ⟨hlen, hone, .inr ⟨g, off, cap, _, rfl, hb.setCells news w arr _, hroom, hcm, by rw [writeAt_size]; exact h3, ?_⟩⟩,
        Fr.setCells news w _ (Fr.refl _ _) (.inl (by simp [own])), fun k hk => .inl (by simpa [own] using hk), by simp⟩
      apply List.ext_getElem?
      intro j
      have hw := writeAt_get news arr (off + n * i.size) (off + j) (by omega)
      have hcl := hown.len
      simp only [List.getElem?_take, List.getElem?_drop, Array.getElem?_toList, hw, List.getElem?_append, Nat.add_mul]
      have hcsj : ∀ j, j < n * i.size → cs[j]? = arr[off + j]? := fun j hj => by
        rw [← h4]; simp [hj]
      by_cases hj : j < n * i.size
      · rw [if_pos (by omega), if_neg (by omega), if_pos (by omega), hcsj j hj]
      · by_cases hj2 : j < n * i.size + m * i.size
        · rw [if_pos (by omega), if_pos (by omega), if_neg (by omega)]
          congr 1; omega
        · rw [if_neg (by omega), if_neg (by omega)]
          rw [List.getElem?_eq_none (by omega)]
  · have hold : (Builtin.firstCells i.size n v).run P w.drew = .ok cs.toArray w.drew := firstCells_of hown.rd.drew
    subst hv
    have hr := run_append_grow_src (P := P) w t tx ty e i z E.ht hi hz0 a n cap cs hold x m news hx (by omega) (by omega) (growslice_fits (by omega) b2)
    have hge := grownCap_ge w (n + m) cap e
    have hcm' : grownCap w (n + m) cap e ≤ maxLen := grownCap_le_maxLen w (n + m) cap e b1
    refine ⟨_, _, hr, ⟨hlen, hone, .inr ⟨w.heap.size, 0, _, _, rfl, heap_alloc_new w.drew _, hge, hcm', ?_, ?_⟩⟩, (Fr.refl _ _).drew.alloc _, fun k hk => .inr (by simp [own] at hk; omega), ?_⟩
    · simp only [Array.size_append, List.size_toArray, size_zeroCells, E.hz, hlen, ← Nat.add_mul, Nat.zero_add]
      exact Nat.mul_le_mul_right _ (by omega)
    · simp only [Array.toList_append, List.drop_zero]
      rw [← hlen]
      exact List.take_left
    · simp
      rintro rfl rfl rfl
      omega

/-- 'append', for the walk. -/
theorem wpList_app {P : Program} {w : World} {ops : Array Oper} {rest : List Oper} {o : Oper} {a : Act} {Q : Exit → Act → World → Prop}
    (hg : o.guard = none) (s x : Operand) (t tx : TypeId) (hop : o.op = Op.call { callee := Callee.builtin Builtin.append, args := #[s, x], argTypes := #[t, tx] })
    {e sz bytes : Nat} {z : Value} (E : Elt P t e sz bytes z) {v : Value} {n m : Nat} {cs news : List Value}
    (hown : Own w e sz v n cs) (hs : a.eval s = v) (hx : Src P sz tx (a.eval x) m news w) (b1 : n + m ≤ maxLen) (b2 : (n + m) * bytes ≤ 140737488355328)
    (hK : ∀ v' w', Own w' e sz v' (n + m) (cs ++ news) → Fr (own v) w w' → (∀ k ∈ own v', k ∈ own v ∨ w.heap.size ≤ k) → (v' = .slice none 0 0 ↔ v = .slice none 0 0 ∧ m = 0) → wpList P ops Q rest (a.put o.dst v') w') :
    wpList P ops Q (o :: rest) a w := by
  subst hs
  refine wpList_plain hg fun K hK' => ?_
  obtain ⟨v', w', hrun, r1, r2, r3, r4⟩ := run_app (P := P) (ty := o.type) E hown hx b1 b2
  unfold Oper.wp
  simp [execOp, hop, resolve, invoke, builtin, hrun, Result.andThen]
  exact hK' _ _ (hK v' w' r1 r2 r3 r4)

/-- 'append' within the capacity: the value is known. -/
theorem run_app_fits {P : Program} {w : World} {t tx ty e sz bytes : Nat} {z : Value} (E : Elt P t e sz bytes z) {x : Value} {g off n m cap : Nat} {cs news : List Value}
    (hown : Own w e sz (.slice (some ⟨g, off, none⟩) n cap) n cs) (hx : Src P sz tx x m news w) (hroom : n + m ≤ cap) :
    ∃ w', (Builtin.append_ #[t, tx] ty #[.slice (some ⟨g, off, none⟩) n cap, x]).run P w = .ok (.slice (some ⟨g, off, none⟩) (n + m) cap) w' ∧ Own w' e sz (.slice (some ⟨g, off, none⟩) (n + m) cap) (n + m) (cs ++ news) ∧ Fr [g] w w' := by
  obtain ⟨i, hi, hz0, rfl, rfl⟩ := info_parts E.hi
  have hlen : (cs ++ news).length = (n + m) * i.size := by rw [List.length_append, hown.len, hx.newsLen, Nat.add_mul]
  have hone : ∀ u ∈ cs ++ news, u.oneCell' = true := fun u hu => (List.mem_append.1 hu).elim (hown.one u) (hx.one u)
  rcases hown.val with ⟨h, _⟩ | ⟨g', off', cap', arr, hv, hb, h1, h2, h3, h4⟩
  · cases h
  · cases hv
    have hfit : (n + m) * i.size ≤ cap * i.size := Nat.mul_le_mul_right _ hroom
    have hnl := hx.newsLen
    rw [Nat.add_mul] at hfit
    have hr := run_append_room_src (P := P) w t tx ty e i E.ht hi g off n cap x m news hx hroom
      (fun j hj => by rw [hb.cell]; simp; omega) (fun j _ => hb.frozen _)
    refine ⟨_, hr, ⟨hlen, hone, .inr ⟨g, off, cap, _, rfl, hb.setCells news w arr _, hroom, h2, by rw [writeAt_size]; exact h3, ?_⟩⟩, Fr.setCells news w _ (Fr.refl _ _) (.inl (by simp))⟩
    apply List.ext_getElem?
    intro j
    have hw := writeAt_get news arr (off + n * i.size) (off + j) (by omega)
    have hcl := hown.len
    simp only [List.getElem?_take, List.getElem?_drop, Array.getElem?_toList, hw, List.getElem?_append, Nat.add_mul]
    have hcsj : ∀ j, j < n * i.size → cs[j]? = arr[off + j]? := fun j hj => by
      rw [← h4]; simp [hj]
    by_cases hj : j < n * i.size
    · rw [if_pos (by omega), if_neg (by omega), if_pos (by omega), hcsj j hj]
    · by_cases hj2 : j < n * i.size + m * i.size
      · rw [if_pos (by omega), if_pos (by omega), if_neg (by omega)]
        congr 1; omega
      · rw [if_neg (by omega), if_neg (by omega)]
        rw [List.getElem?_eq_none (by omega)]

/-- 'append', as one step of a region that draws. -/
theorem step_app {P : Program} {w : World} {ops : Array Oper} {o : Oper} {a : Act} {K : Act → World → Prop} {Q : Exit → Act → World → Prop} {X : Prop}
    (hg : o.guard = none) (s x : Operand) (t tx : TypeId) (hop : o.op = Op.call { callee := Callee.builtin Builtin.append, args := #[s, x], argTypes := #[t, tx] })
    {e sz bytes : Nat} {z : Value} (E : Elt P t e sz bytes z) {v : Value} {n m : Nat} {cs news : List Value}
    (hown : Own w e sz v n cs) (hs : a.eval s = v) (hx : Src P sz tx (a.eval x) m news w) (b1 : n + m ≤ maxLen) (b2 : (n + m) * bytes ≤ 140737488355328)
    (hK : ∀ v' w', Own w' e sz v' (n + m) (cs ++ news) → Fr (own v) w w' → (∀ k ∈ own v', k ∈ own v ∨ w.heap.size ≤ k) → (v' = .slice none 0 0 ↔ v = .slice none 0 0 ∧ m = 0) → K (a.put o.dst v') w') :
    if Region.wanted o (yielded ops a.tmps) = true then Oper.wp P o a w K Q else X := by
  have hw : Region.wanted o (yielded ops a.tmps) = true := by simp [Region.wanted, hg]
  rw [if_pos hw]
  subst hs
  obtain ⟨v', w', hrun, r1, r2, r3, r4⟩ := run_app (P := P) (ty := o.type) E hown hx b1 b2
  unfold Oper.wp
  simp [execOp, hop, resolve, invoke, builtin, hrun, Result.andThen]
  exact hK _ _ r1 r2 r3 r4

section
variable {P : Program} {w : World} {ops : Array Oper} {rest : List Oper} {o : Oper} {a : Act} {Q : Exit → Act → World → Prop}
theorem wp_app_fits (s x : Operand) (t tx : TypeId) (hop : o.op = Op.call { callee := Callee.builtin Builtin.append, args := #[s, x], argTypes := #[t, tx] })
    {e sz bytes : Nat} {z : Value} (E : Elt P t e sz bytes z) {g off n m cap : Nat} {cs news : List Value}
    (hown : Own w e sz (.slice (some ⟨g, off, none⟩) n cap) n cs) (hs : a.eval s = .slice (some ⟨g, off, none⟩) n cap) (hx : Src P sz tx (a.eval x) m news w) (hroom : n + m ≤ cap)
    {K : Act → World → Prop}
    (hK : ∀ w', Own w' e sz (.slice (some ⟨g, off, none⟩) (n + m) cap) (n + m) (cs ++ news) → Fr [g] w w' → K (a.put o.dst (.slice (some ⟨g, off, none⟩) (n + m) cap)) w') :
    o.wp P a w K Q := by
  obtain ⟨w', hrun, r1, r2⟩ := run_app_fits (P := P) (ty := o.type) E hown hx hroom
  unfold Oper.wp
  simp [execOp, hop, resolve, invoke, builtin, hs, hrun, Result.andThen]
  exact hK _ r1 r2
theorem wpList_app_fits (hg : o.guard = none) (s x : Operand) (t tx : TypeId) (hop : o.op = Op.call { callee := Callee.builtin Builtin.append, args := #[s, x], argTypes := #[t, tx] })
    {e sz bytes : Nat} {z : Value} (E : Elt P t e sz bytes z) {g off n m cap : Nat} {cs news : List Value}
    (hown : Own w e sz (.slice (some ⟨g, off, none⟩) n cap) n cs) (hs : a.eval s = .slice (some ⟨g, off, none⟩) n cap) (hx : Src P sz tx (a.eval x) m news w) (hroom : n + m ≤ cap)
    (hK : ∀ w', Own w' e sz (.slice (some ⟨g, off, none⟩) (n + m) cap) (n + m) (cs ++ news) → Fr [g] w w' → wpList P ops Q rest (a.put o.dst (.slice (some ⟨g, off, none⟩) (n + m) cap)) w') :
    wpList P ops Q (o :: rest) a w :=
  wpList_plain hg fun _ hK' => wp_app_fits s x t tx hop E hown hs hx hroom fun w' h1 h2 => hK' _ _ (hK w' h1 h2)

/-- What lies behind a slice's length may be written: the slice is as it was. -/
theorem Own.beyond {e sz g off n cap : Nat} {cs : List Value} (h : Own w e sz (.slice (some ⟨g, off, none⟩) n cap) n cs) (vs : List Value) (p : Nat) (hp : off + n * sz ≤ p) (hs : p + vs.length ≤ off + cap * sz) :
    Own (w.setCells g p vs) e sz (.slice (some ⟨g, off, none⟩) n cap) n cs := by
  refine ⟨h.len, h.one, ?_⟩
  rcases h.val with ⟨hv, _⟩ | ⟨g', off', cap', arr, hv, hb, h1, h2, h3, h4⟩
  · cases hv
  · cases hv
    refine .inr ⟨g, off, cap, _, rfl, hb.setCells vs w arr p, h1, h2, by rw [writeAt_size]; exact h3, ?_⟩
    rw [← h4]
    apply List.ext_getElem?
    intro j
    have hw := writeAt_get vs arr p (off + j) (by omega)
    simp only [List.getElem?_take, List.getElem?_drop, Array.getElem?_toList, hw]
    by_cases hj : j < n * sz
    · rw [if_pos hj, if_pos hj, if_neg (by omega)]
    · rw [if_neg hj, if_neg hj]
theorem mem_zeroCells {z : Array Value} {n : Nat} (hz : ∀ u ∈ z.toList, u.oneCell' = true) (hp : 0 < z.size) : ∀ u ∈ (Builtin.zeroCells z n).toList, u.oneCell' = true := by
  intro u hu
  simp only [Builtin.zeroCells, Array.toList_map, Array.toList_range, List.mem_map] at hu
  obtain ⟨i, _, rfl⟩ := hu
  have : i % z.size < z.size := Nat.mod_lt _ hp
  rw [getElem!_pos z _ this]
  exact hz _ (by simp)
/-- 'clear(s)', s of one's own. -/
theorem run_clear_own {t ty e sz bytes g off n cap arrn : Nat} {z : Value} (E : Elt P t e sz bytes z) {arr : Array Value} (hb : Blk w g arr e) (hn : off + n * sz ≤ arr.size) (hm : arrn = n) :
    (Builtin.clear_ #[t] ty #[.slice (some ⟨g, off, none⟩) n cap]).run P w = .ok (.tuple #[]) (w.setCells g off (Builtin.zeroCells z.cells n).toList) := by
  obtain ⟨i, hi, hz0, rfl, rfl⟩ := info_parts E.hi
  cases n with
  | zero => simp [Builtin.clear_, run_underlying E.ht, Builtin.zeroCells, World.setCells]
  | succ n =>
    have hsz : (Builtin.zeroCells z.cells (n + 1)).toList.length = (n + 1) * i.size := by rw [Array.length_toList, size_zeroCells, E.hz]
    have hst := run_storeCells_cells (P := P) g off (Builtin.zeroCells z.cells (n + 1)).toList 0 w
      (fun j hj => by rw [hb.cell]; simp; omega) (fun j _ => hb.frozen _) (mem_zeroCells E.zone (by rw [E.hz]; exact E.pos))
    simp only [Nat.add_zero] at hst
    simp [Builtin.clear_, run_underlying E.ht, zeroValue, typeInfo, hi, hz0, hst]
theorem wpList_clear (hg : o.guard = none) (s : Operand) (t : TypeId) (hop : o.op = Op.call { callee := Callee.builtin Builtin.clear, args := #[s], argTypes := #[t] })
    {e sz bytes : Nat} {z : Value} (E : Elt P t e sz bytes z) {g off n cap : Nat} {arr : Array Value} (hb : Blk w g arr e) (hs : a.eval s = .slice (some ⟨g, off, none⟩) n cap) (hn : off + n * sz ≤ arr.size)
    (hK : wpList P ops Q rest (a.put o.dst (.tuple #[])) (w.setCells g off (Builtin.zeroCells z.cells n).toList)) :
    wpList P ops Q (o :: rest) a w := by
  refine wpList_plain hg fun K hK' => ?_
  have hrun := run_clear_own (P := P) (ty := o.type) (cap := cap) E hb hn rfl
  unfold Oper.wp
  simp [execOp, hop, resolve, invoke, builtin, hs, hrun, Result.andThen]
  exact hK' _ _ hK
end
end Go.Proofs.Ytomplpdeeomehaa
