/- The logic and the walks, in one text with others: part 2 of 4. -/
import Derived.Laws.Cover3
import Derived.Laws.Pointers
import Derived.Laws.StructEq
import Derived.Test.YthamkpjiecigjaaChecked
import Derived.Test.YthamkpjiecigjaaRk1
/- Data that is read: lists of structs, slices in slices. No program is named. -/
namespace Go.Proofs.Ythamkpjiecigjaa
set_option linter.unusedVariables false
set_option linter.unusedSimpArgs false
open Go.ChangeShapes Go.WideShapes Go.ChangeAt Go.RowKit

/-- a slice that is read -/
structure G where
  sz : Nat
  v : Value
  n : Nat
  cells : List Value
/-- data with cells, and with slices that hang from them -/
class Dat (α : Type) where
  sz : Nat
  c : α → List Value
  cs : List α → List Value
  g : α → List G
  dflt : α
  cs_eq : ∀ l, cs l = l.flatMap c
  len : ∀ x, (c x).length = sz
  one : ∀ x, ∀ v ∈ c x, v.oneCell' = true
  pos : 0 < sz
theorem map_flat {α : Type} (f : α → Value) (l : List α) : l.map f = l.flatMap fun x => [f x] := by
  induction l with
  | nil => rfl
  | cons x r ih => simp [ih]
abbrev Dat.scalar {α : Type} (f : α → Value) (d : α) (h1 : ∀ x, (f x).oneCell' = true) : Dat α where
  sz := 1
  c x := [f x]
  cs l := l.map f
  g _ := []
  dflt := d
  cs_eq l := map_flat f l
  len _ := rfl
  one x v hv := by simp at hv; subst hv; exact h1 x
  pos := Nat.one_pos
abbrev vI (n : Int) : Value := .int .i64 n
abbrev vB (b : Bool) : Value := .bool b
abbrev vS (s : ByteArray) : Value := .string s
instance : Dat UInt8 := Dat.scalar v8 0 fun _ => rfl
instance : Dat UInt16 := Dat.scalar v16 0 fun _ => rfl
instance : Dat UInt32 := Dat.scalar v32 0 fun _ => rfl
instance : Dat UInt64 := Dat.scalar v64 0 fun _ => rfl
instance : Dat Int := Dat.scalar vI 0 fun _ => rfl
instance : Dat Nat := Dat.scalar vN 0 fun _ => rfl
instance : Dat Bool := Dat.scalar vB false fun _ => rfl
instance : Dat ByteArray := Dat.scalar vS .empty fun _ => rfl
/-- a slice and what it holds -/
structure Sl (α : Type) where
  a : Option Addr
  cap : Nat
  l : List α
abbrev Sl.v {α : Type} (s : Sl α) : Value := .slice s.a s.l.length s.cap
instance {α : Type} [Dat α] : Dat (Sl α) where
  sz := 1
  c s := [s.v]
  cs l := l.map Sl.v
  g s := ⟨Dat.sz α, s.v, s.l.length, Dat.cs s.l⟩ :: s.l.flatMap Dat.g
  dflt := ⟨none, 0, []⟩
  cs_eq l := map_flat _ l
  len _ := rfl
  one x v hv := by simp at hv; subst hv; rfl
  pos := Nat.one_pos
instance {α β : Type} [Dat α] [Dat β] : Dat (α × β) where
  sz := Dat.sz α + Dat.sz β
  c x := Dat.c x.1 ++ Dat.c x.2
  cs l := l.flatMap fun x => Dat.c x.1 ++ Dat.c x.2
  g x := Dat.g x.1 ++ Dat.g x.2
  dflt := (Dat.dflt, Dat.dflt)
  cs_eq _ := rfl
  len x := by simp [Dat.len]
  one x v hv := by
    rcases List.mem_append.1 hv with h | h
    · exact Dat.one _ _ h
    · exact Dat.one _ _ h
  pos := Nat.add_pos_left Dat.pos _
abbrev Bs := Sl UInt8
def SA.rdss (gs : List G) : SA := ⟨fun w _ R => ∀ q ∈ gs, (q.n ≠ 0 → ∀ k ∈ own q.v, R k) ∧ Rd w q.sz q.v q.n q.cells,
  fun h hg q hq => ⟨(h q hq).1, hg.rd0 (h q hq).2 (fun hn k hk => .inr ((h q hq).1 hn k hk))⟩⟩
def SA.dat {α : Type} [Dat α] (x : α) : SA := SA.rdss (Dat.g x)
theorem flat_get {α : Type} {c : α → List Value} {sz : Nat} (hl : ∀ x, (c x).length = sz) (d : α) : ∀ (l : List α) (i k : Nat), i < l.length → k < sz → (l.flatMap c)[i * sz + k]? = (c (l.getD i d))[k]?
  | [], i, k, hi, _ => by simp at hi
  | x :: l, 0, k, _, hk => by rw [List.flatMap_cons, List.getElem?_append_left (by rw [hl]; omega)]; simp
  | x :: l, i + 1, k, hi, hk => by
    have h1 := hl x
    rw [List.flatMap_cons, List.getElem?_append_right (by rw [h1, Nat.add_mul]; omega), h1, show (i + 1) * sz + k - sz = i * sz + k by rw [Nat.add_mul]; omega]
    rw [flat_get hl d l i k (by simpa using hi) hk]
    simp
theorem flat_len {α : Type} {c : α → List Value} {sz : Nat} (hl : ∀ x, (c x).length = sz) (l : List α) : (l.flatMap c).length = l.length * sz := by
  induction l with
  | nil => simp
  | cons x r ih => simp [hl, ih, Nat.add_mul]; omega
section
variable {α β : Type} [Dat α] [Dat β] {P : Program} {N : Nat} {F : FE} {As L L0 : List SA} {A : SA} {κ : Ctx} {code : Code} {Q : Exit → Act → World → Prop} {v : Value} {o : Oper} {x : Operand}
theorem Dat.cs_app (l m : List α) : Dat.cs (l ++ m) = Dat.cs l ++ Dat.cs m := by simp [Dat.cs_eq]
theorem Dat.cs_one (x : α) : Dat.cs [x] = Dat.c x := by simp [Dat.cs_eq]
theorem Dat.cs_len (l : List α) : (Dat.cs l).length = l.length * Dat.sz α := by rw [Dat.cs_eq]; exact flat_len Dat.len l
theorem Dat.cs_take (l : List α) (k : Nat) : Dat.cs (l.take k) = (Dat.cs l).take (k * Dat.sz α) := by
  rw [Dat.cs_eq, Dat.cs_eq]
  induction l generalizing k with
  | nil => simp
  | cons x r ih =>
    cases k with
    | zero => simp
    | succ k => rw [List.take_succ_cons, List.flatMap_cons, List.flatMap_cons, ih, Nat.add_mul, Nat.one_mul, Nat.add_comm, ← Dat.len x, List.take_length_add_append]
theorem Dat.cs_get {l : List α} {i k : Nat} (d : α) (hi : i < l.length) (hk : k < Dat.sz α) : (Dat.cs l)[i * Dat.sz α + k]? = (Dat.c (l.getD i d))[k]? := by rw [Dat.cs_eq]; exact flat_get Dat.len d l i k hi hk
theorem Reads.dat {s : Sl α} : Reads (SA.dat s) (Dat.sz α) s.v s.l.length (Dat.cs s.l) := fun w O R h => (h ⟨Dat.sz α, s.v, s.l.length, Dat.cs s.l⟩ (by simp [Dat.g])).2
theorem Reads.bytes {s : Bs} : Reads (SA.dat s) 1 (.slice s.a s.l.length s.cap) s.l.length (s.l.map v8) := Reads.dat
theorem Dup.rdss {gs : List G} : Dup (SA.rdss gs) := fun _ _ _ h => h
theorem Dup.dat {x : α} : Dup (SA.dat x) := Dup.rdss
theorem Ent.rdss_sub {gs hs : List G} (h : ∀ q ∈ hs, q ∈ gs) : Ent (SA.rdss gs :: L) (SA.rdss hs :: SA.rdss gs :: L) :=
  (Ent.dup Dup.rdss).trans (Ent.imp fun w O R k => ⟨O, R, fun q hq => k q (h q hq), fun _ h => h, fun _ h => .inr h⟩)
theorem Ent.elem {s : Sl α} {x : α} (hx : x ∈ s.l) : Ent (SA.dat s :: L) (SA.dat x :: SA.dat s :: L) := Ent.rdss_sub fun q hq => List.mem_cons_of_mem _ (List.mem_flatMap.2 ⟨x, hx, hq⟩)
theorem Ent.fst {x : α × β} : Ent (SA.dat x :: L) (SA.dat x.1 :: SA.dat x :: L) := Ent.rdss_sub fun q hq => List.mem_append_left _ hq
theorem Ent.snd {x : α × β} : Ent (SA.dat x :: L) (SA.dat x.2 :: SA.dat x :: L) := Ent.rdss_sub fun q hq => List.mem_append_right _ hq
theorem Ent.rdsOf {s : Sl α} : Ent (SA.dat s :: L) (SA.rds (Dat.sz α) s.v s.l.length (Dat.cs s.l) :: SA.dat s :: L) :=
  (Ent.dup Dup.dat).trans (Ent.imp fun w O R k => ⟨O, R, k ⟨Dat.sz α, s.v, s.l.length, Dat.cs s.l⟩ (by simp [Dat.g]), fun _ h => h, fun _ h => .inr h⟩)
theorem Ent.bytesOf {s : Bs} : Ent (SA.dat s :: L) (SA.rds 1 (.slice s.a s.l.length s.cap) s.l.length (s.l.map v8) :: SA.dat s :: L) := Ent.rdsOf
theorem Ent.rdss0 : Ent L (SA.rdss [] :: L) := fun w O R h => ⟨O, R, ⟨fun _ => False, fun _ => False, O, R, fun x hx => by simp at hx, h, by simp, fun k hk => ⟨hk, by simp⟩, by simp, fun k hk => hk⟩, fun _ h => h, fun _ h => .inr h⟩
/-- two that are read, as one -/
theorem Ent.rdssApp {gs hs : List G} : Ent (SA.rdss gs :: SA.rdss hs :: L) (SA.rdss (gs ++ hs) :: L) := fun w O R h => by
  have h' := SA.Le.assoc' _ _ _ h
  obtain ⟨O1, R1, O2, R2, hA, hL, r⟩ := h'
  obtain ⟨O3, R3, O4, R4, hB, hC, s1, s2, s3, s4⟩ := hA
  refine ⟨O, R, ⟨O1, R1, O2, R2, fun q hq => ?_, hL, r⟩, fun _ h => h, fun _ h => .inr h⟩
  rcases List.mem_append.1 hq with h | h
  · exact ⟨fun hn k hk => s3 k ((hB q h).1 hn k hk), (hB q h).2⟩
  · exact ⟨fun hn k hk => s4 k ((hC q h).1 hn k hk), (hC q h).2⟩
theorem Ent.rdsG {sz n : Nat} {cs : List Value} : Ent (SA.rds sz v n cs :: L) (SA.rdss [⟨sz, v, n, cs⟩] :: L) := Ent.imp fun w O R h => ⟨O, R, fun q hq => by simp at hq; subst hq; exact h, fun _ h => h, fun _ h => .inr h⟩
/-- a slice and what it holds, put together -/
theorem Ent.mkSl {a : Option Addr} {n cap sz : Nat} {l : List α} {cells : List Value} (hn : l.length = n) (hs : Dat.sz α = sz) (hc : Dat.cs l = cells) : Ent (SA.rds sz (.slice a n cap) n cells :: SA.rdss (l.flatMap Dat.g) :: L) (SA.dat (⟨a, cap, l⟩ : Sl α) :: L) := by
  subst hn; subst hs; subst hc
  exact Ent.rdsG.trans Ent.rdssApp
theorem Ent.mkBytes {a : Option Addr} {n cap : Nat} {l : List UInt8} (hn : l.length = n) : Ent (SA.rds 1 (.slice a n cap) n (l.map v8) :: L) (SA.dat (⟨a, cap, l⟩ : Bs) :: L) := by
  subst hn
  have : l.flatMap (Dat.g : UInt8 → List G) = [] := List.flatMap_eq_nil_iff.2 fun _ _ => rfl
  refine Ent.trans (Ent.rdsG) ?_
  rw [show SA.dat (⟨a, cap, l⟩ : Bs) = SA.rdss [⟨1, .slice a l.length cap, l.length, l.map v8⟩] by
    show SA.rdss (⟨1, _, _, _⟩ :: l.flatMap Dat.g) = _
    rw [this]; rfl]
  exact Ent.refl
theorem reads_some {sz n cap : Nat} {a : Option Addr} {cs : List Value} (hA : Reads A sz (.slice a n cap) n cs) (h : In A L) (hn : 0 < n) (hs : 0 < sz) : ∀ w, Holds L w → ∃ g off, a = some ⟨g, off, none⟩ := fun w hw => by
  obtain ⟨O, R, h1⟩ := hw _ h
  obtain ⟨b, c, he, h2, h3, h4, h5⟩ := (hA _ _ _ h1).val
  cases he
  cases a with
  | none => have := (h4 rfl).1; omega
  | some p =>
    have hl := (hA _ _ _ h1).len
    have hpos : 0 < cs.length := by rw [hl]; exact Nat.mul_pos hn hs
    have hc := h5 p rfl 0 cs[0] (by simp [hpos])
    obtain ⟨g, off, spot⟩ := p
    have : spot = none := by
      cases spot with
      | none => rfl
      | some q =>
        simp only [Addr.add, if_pos, World.cell?] at hc
        split at hc <;> simp at hc
    subst this
    exact ⟨g, off, rfl⟩
theorem getS {α : Type} {l : List α} {i : Nat} (h : i < l.length) : ∃ x, l[i]? = some x ∧ x ∈ l := ⟨l[i], by simp [h], List.getElem_mem h⟩
theorem Dat.cs_at {l : List α} {i k : Nat} {x : α} (hx : l[i]? = some x) (hk : k < Dat.sz α) : (Dat.cs l)[i * Dat.sz α + k]? = (Dat.c x)[k]? := by
  obtain ⟨hi, he⟩ := List.getElem?_eq_some_iff.1 hx
  rw [Dat.cs_get x hi hk, List.getD_eq_getElem?_getD, hx]; rfl
/-- a place of an element of a slice of structs -/
theorem Cel.at {g off n cap sz i k : Nat} {l : List α} {x : α} (hA : Reads A sz (.slice (some ⟨g, off, none⟩) n cap) n (Dat.cs l)) (h : In A As) (hx : l[i]? = some x) (hv : (Dat.c x)[k]? = some v) (hs : Dat.sz α = sz := by rfl) : Cel As ⟨g, off + (i * sz + k), none⟩ v := by
  subst hs
  have hk : k < Dat.sz α := by rw [← Dat.len x]; exact (List.getElem?_eq_some_iff.1 hv).1
  have := Cel.reads hA h ((Dat.cs_at hx hk).trans hv)
  rwa [Addr.add_lit] at this
theorem Cel.at0 {g off n cap sz i : Nat} {l : List α} {x : α} (hA : Reads A sz (.slice (some ⟨g, off, none⟩) n cap) n (Dat.cs l)) (h : In A As) (hx : l[i]? = some x) (hv : (Dat.c x)[0]? = some v) (hs : Dat.sz α = sz := by rfl) : Cel As ⟨g, off + i * sz, none⟩ v := by
  have := Cel.at (k := 0) hA h hx hv hs
  rwa [Nat.add_zero] at this
theorem Cels.at {g off n cap sz i : Nat} {l : List α} {x : α} (hA : Reads A sz (.slice (some ⟨g, off, none⟩) n cap) n (Dat.cs l)) (h : In A As) (hx : l[i]? = some x) (hs : Dat.sz α = sz := by rfl) : Cels As ⟨g, off + i * sz, none⟩ (Dat.c x) := fun w hw j u hj => by
  have := Cel.at (k := j) hA h hx hj hs w hw
  rw [Addr.add_lit, Nat.add_assoc]; exact this
theorem Reads.datM {a : Option Addr} {cap : Nat} {l : List α} : Reads (SA.dat (⟨a, cap, l⟩ : Sl α)) (Dat.sz α) (.slice a l.length cap) l.length (Dat.cs l) := Reads.dat (s := ⟨a, cap, l⟩)
theorem Cel.datAt {g off cap sz i k : Nat} {l : List α} {x : α} (h : In (SA.dat (⟨some ⟨g, off, none⟩, cap, l⟩ : Sl α)) As) (hx : l[i]? = some x) (hv : (Dat.c x)[k]? = some v) (hs : Dat.sz α = sz := by rfl) : Cel As ⟨g, off + (i * sz + k), none⟩ v := by
  subst hs; exact Cel.at Reads.datM h hx hv
theorem Cel.datAt0 {g off cap sz i : Nat} {l : List α} {x : α} (h : In (SA.dat (⟨some ⟨g, off, none⟩, cap, l⟩ : Sl α)) As) (hx : l[i]? = some x) (hv : (Dat.c x)[0]? = some v) (hs : Dat.sz α = sz := by rfl) : Cel As ⟨g, off + i * sz, none⟩ v := by
  subst hs; exact Cel.at0 Reads.datM h hx hv
theorem Cel.datAtS {g off cap i : Nat} {l : List α} {x : α} (h : In (SA.dat (⟨some ⟨g, off, none⟩, cap, l⟩ : Sl α)) As) (hx : l[i]? = some x) (hv : (Dat.c x)[0]? = some v) (hs : Dat.sz α = 1 := by rfl) : Cel As ⟨g, off + i, none⟩ v := by
  have := Cel.datAt0 h hx hv hs
  rwa [Nat.mul_one] at this
theorem Cels.datAt {g off cap sz i : Nat} {l : List α} {x : α} (h : In (SA.dat (⟨some ⟨g, off, none⟩, cap, l⟩ : Sl α)) As) (hx : l[i]? = some x) (hs : Dat.sz α = sz := by rfl) : Cels As ⟨g, off + i * sz, none⟩ (Dat.c x) := by
  subst hs; exact Cels.at Reads.datM h hx
theorem dat_some {cap : Nat} {a : Option Addr} {l : List α} (h : In (SA.dat (⟨a, cap, l⟩ : Sl α)) L) (hn : 0 < l.length) : ∀ w, Holds L w → ∃ g off, a = some ⟨g, off, none⟩ := reads_some Reads.datM h hn Dat.pos
theorem dat_cap {cap : Nat} {a : Option Addr} {l : List α} (h : In (SA.dat (⟨a, cap, l⟩ : Sl α)) L) : ∀ w, Holds L w → l.length ≤ cap ∧ cap ≤ 9223372036854775807 ∧ (a = none → l.length = 0) := fun w hw =>
  let ⟨h1, h2, _, h3⟩ := reads_cap Reads.datM h w hw; ⟨h1, by simpa only [maxLen] using h2, h3⟩
/-- a slice more that is read -/
theorem Ent.bsCons {a : Option Addr} {n cap : Nat} {l : List UInt8} {xs : List Bs} (hn : l.length = n) : Ent (SA.rds 1 (.slice a n cap) n (l.map v8) :: SA.rdss (xs.flatMap Dat.g) :: L) (SA.rdss (((⟨a, cap, l⟩ : Bs) :: xs).flatMap Dat.g) :: L) := by
  rw [List.flatMap_cons]
  exact (Ent.mkBytes hn).trans Ent.rdssApp
theorem Ent.bsPull {e n cap : Nat} {a : Option Addr} {l : List UInt8} {cs : List Value} {xs : List Bs} {L1 L2 : List SA} (h1 : Pull (SA.rdss (xs.flatMap Dat.g)) L L1) (h2 : Pull (SA.owns e 1 (.slice a n cap) n cs) L1 L2) (hn : l.length = n) (hc : l.map v8 = cs) : Ent L (SA.rdss (((⟨a, cap, l⟩ : Bs) :: xs).flatMap Dat.g) :: L2) := by
  subst hc
  exact h1.ent.trans ((h2.ent.under _).trans (Ent.swap.trans (Ent.freeze.trans (Ent.bsCons hn))))
theorem Ent.bsPullR {n cap : Nat} {a : Option Addr} {l : List UInt8} {cs : List Value} {xs : List Bs} {L1 L2 : List SA} (h1 : Pull (SA.rdss (xs.flatMap Dat.g)) L L1) (h2 : Pull (SA.rds 1 (.slice a n cap) n cs) L1 L2) (hn : l.length = n) (hc : l.map v8 = cs) : Ent L (SA.rdss (((⟨a, cap, l⟩ : Bs) :: xs).flatMap Dat.g) :: L2) := by
  subst hc
  exact h1.ent.trans ((h2.ent.under _).trans (Ent.swap.trans (Ent.bsCons hn)))
theorem Ent.bsNil : Ent L (SA.rdss (([] : List Bs).flatMap Dat.g) :: L) := Ent.rdss0
/-- a block that is not written any more, read as a slice -/
theorem Ent.rdOfBlk {b T sz n : Nat} {cs : Array Value} {c : List Value} {L1 : List SA} (h1 : Pull (SA.blk b cs T) L L1) (hR : Reads (SA.blk b cs T) sz v n c) (ho : own v = [b]) : Ent L (SA.rds sz v n c :: L1) :=
  h1.ent.trans (Ent.imp fun w O R h => ⟨fun _ => False, O, ⟨fun _ k hk => by rw [ho] at hk; simp at hk; subst hk; exact h.1, hR w O R h⟩, fun _ h => h.elim, fun _ h => .inl h⟩)
theorem Ent.mkJoin {e g n : Nat} {xs : List Bs} {cells : List Value} {L1 L2 : List SA} (h1 : Pull (SA.rdss (xs.flatMap Dat.g)) L L1) (h2 : Pull (SA.owns e 1 (.slice (some ⟨g, 0, none⟩) n n) n cells) L1 L2) (hn : xs.length = n) (hc : xs.map Sl.v = cells) : Ent L (SA.dat (⟨some ⟨g, 0, none⟩, n, xs⟩ : Sl Bs) :: L2) :=
  h1.ent.trans ((h2.ent.under _).trans (Ent.swap.trans (Ent.freeze.trans (Ent.mkSl hn rfl hc))))
/-- the address of a field, the base kept apart -/
theorem Y.fieldAddrJ {s f : Nat} {off b k j q : Nat} (ho : o.op = .fieldAddr s x f) (hf : Program.fieldOff P s f = some off) (hx : evO F x = some (.pointer (some ⟨b, k + j, none⟩))) (hq : j + off = q) : Yld P N o F As (.pointer (some ⟨b, k + q, none⟩)) :=
  Y.fieldAddr ho hf hx (by omega)
theorem Src.dat {s : Bs} {tx e' : Nat} (hk : P.underlying tx = some (.slice e')) (h : In (SA.dat s) As) : ∀ w, Holds As w → Src P 1 tx (.slice s.a s.l.length s.cap) s.l.length (s.l.map v8) w := Src.reads Reads.bytes hk h
/-- what there is, is named -/
theorem TC.open {γ : Type} {f : γ → SA} (hp : Pull (SA.ex f) L L0) (k : ∀ x, TC κ P N code F (f x :: L0) Q) : TC κ P N code F L Q := fun ds a w ha hd hw => by
  have h1 := ((Pull.there (B := SA.hid κ.X ds) hp).st hw)
  obtain ⟨x, h⟩ := h1.ex
  exact k x ds a w ha hd h.up1
/-- a truth is known -/
theorem TL.is {d : Nat} {b : Bool} {ops : Array Oper} {rest : List Oper} (c : Bool) (h : b = c) (k : TL κ P N ops rest ((d, some (.bool c)) :: F) L Q) : TL κ P N ops rest ((d, some (.bool b)) :: F) L Q := h ▸ k
theorem TA.is {d last fuel : Nat} {b : Bool} {ops : Array Oper} {listed : Array Bool} (c : Bool) (h : b = c) (k : TA κ P N ops last As fuel listed ((d, some (.bool c)) :: F) L Q) : TA κ P N ops last As fuel listed ((d, some (.bool b)) :: F) L Q := h ▸ k
/-- a value, said in other words -/
theorem TL.as {d : Nat} {v : Value} {ops : Array Oper} {rest : List Oper} (u : Value) (h : v = u) (k : TL κ P N ops rest ((d, some u) :: F) L Q) : TL κ P N ops rest ((d, some v) :: F) L Q := h ▸ k
theorem TA.as {d last fuel : Nat} {v : Value} {ops : Array Oper} {listed : Array Bool} (u : Value) (h : v = u) (k : TA κ P N ops last As fuel listed ((d, some u) :: F) L Q) : TA κ P N ops last As fuel listed ((d, some v) :: F) L Q := h ▸ k
theorem TA.to {last fuel : Nat} {ops : Array Oper} {listed : Array Bool} {L' : List SA} (h : Ent L L') (k : TA κ P N ops last As fuel listed F L' Q) : TA κ P N ops last As fuel listed F L Q := fun ds a w ha hd hw hS => k ds a w ha hd (h.hid hw) hS
theorem TA.know {last fuel : Nat} {ops : Array Oper} {listed : Array Bool} {φ : Prop} (h : ∀ w, Holds L w → φ) (k : φ → TA κ P N ops last As fuel listed F L Q) : TA κ P N ops last As fuel listed F L Q := fun ds a w ha hd hw hS => k (h w hw.tl.holds) ds a w ha hd hw hS
theorem TL.open {γ : Type} {f : γ → SA} {ops : Array Oper} {rest : List Oper} (hp : Pull (SA.ex f) L L0) (k : ∀ x, TL κ P N ops rest F (f x :: L0) Q) : TL κ P N ops rest F L Q := fun ds a w ha hd hw => by
  have h1 := ((Pull.there (B := SA.hid κ.X ds) hp).st hw)
  obtain ⟨x, h⟩ := h1.ex
  exact k x ds a w ha hd h.up1
theorem TL.split {B : SA} {ops : Array Oper} {rest : List Oper} (hp : Pull (SA.star A B) L L0) (k : TL κ P N ops rest F (A :: B :: L0) Q) : TL κ P N ops rest F L Q := fun ds a w ha hd hw =>
  k ds a w ha hd ((Ent.starE.under _).st ((hp.ent.under _).st hw))
theorem TC.split {B : SA} (hp : Pull (SA.star A B) L L0) (k : TC κ P N code F (A :: B :: L0) Q) : TC κ P N code F L Q := fun ds a w ha hd hw =>
  k ds a w ha hd ((Ent.starE.under _).st ((hp.ent.under _).st hw))
/-! ### arguments that are such data -/
/-- the slices can be read -/
def RdAll (W : World) (gs : List G) : Prop := ∀ q ∈ gs, 0 < q.sz ∧ Rd W q.sz q.v q.n q.cells
theorem RdAll.app {W : World} {gs hs : List G} (h : RdAll W gs) (k : RdAll W hs) : RdAll W (gs ++ hs) := fun q hq => (List.mem_append.1 hq).elim (h q) (k q)
/-- values of this type are such data, within bounds -/
def DatT (P : Program) (t : TypeId) (α : Type) [Dat α] (Bd : α → Prop) : Prop :=
  ∀ (H : Type) (enc : TypeId × Value → H) (W : World) (cs : List Value), Opn enc P W t cs → ∃ x : α, cs = Dat.c x ∧ RdAll W (Dat.g x) ∧ Bd x
/-- from a place on -/
def DatF (P : Program) (t off : Nat) (α : Type) [Dat α] (Bd : α → Prop) : Prop :=
  ∀ (H : Type) (enc : TypeId × Value → H) (W : World) (cs : List Value), Opn enc P W t cs → ∃ x : α, cs.drop off = Dat.c x ∧ RdAll W (Dat.g x) ∧ Bd x
theorem RdAll.st {W : World} {gs : List G} (h : RdAll W gs) : ∃ R, (SA.rdss gs).p W (fun _ => False) R ∧ ∀ k, R k → k < W.heap.size := by
  refine ⟨fun k => ∃ q ∈ gs, q.n ≠ 0 ∧ k ∈ own q.v, fun q hq => ⟨fun hn k hk => ⟨q, hq, hn, hk⟩, (h q hq).2⟩, ?_⟩
  rintro k ⟨q, hq, hn, hk⟩
  obtain ⟨R, h1, h2⟩ := (h q hq).2.arg (h q hq).1
  exact h2 k (h1.1 hn k hk)
theorem wf_u16 {n : Int} (h : (Lit.int .u16 n).wf = true) : n = ((UInt16.ofNat n.toNat).toNat : Int) := by
  have := bounds_u16 h
  rw [UInt16.toNat_ofNat_of_lt' (by show n.toNat < 65536; omega)]; omega
theorem wf_u32 {n : Int} (h : (Lit.int .u32 n).wf = true) : n = ((UInt32.ofNat n.toNat).toNat : Int) := by
  have := bounds_u32 h
  rw [UInt32.toNat_ofNat_of_lt' (by show n.toNat < 4294967296; omega)]; omega
theorem DatT.u8 {t : TypeId} (h : P.underlying t = some (.int .u8)) : DatT P t UInt8 (fun _ => True) := fun H enc W cs ho => by
  obtain ⟨n, rfl, hn⟩ := ho.int h
  exact ⟨b8 n, by show [Value.int .u8 n] = [Value.int .u8 _]; rw [← wf_u8 hn], fun q hq => (by cases hq), trivial⟩
theorem DatT.u16 {t : TypeId} (h : P.underlying t = some (.int .u16)) : DatT P t UInt16 (fun _ => True) := fun H enc W cs ho => by
  obtain ⟨n, rfl, hn⟩ := ho.int h
  exact ⟨UInt16.ofNat n.toNat, by show [Value.int .u16 n] = [Value.int .u16 _]; rw [← wf_u16 hn], fun q hq => (by cases hq), trivial⟩
theorem DatT.u32 {t : TypeId} (h : P.underlying t = some (.int .u32)) : DatT P t UInt32 (fun _ => True) := fun H enc W cs ho => by
  obtain ⟨n, rfl, hn⟩ := ho.int h
  exact ⟨UInt32.ofNat n.toNat, by show [Value.int .u32 n] = [Value.int .u32 _]; rw [← wf_u32 hn], fun q hq => (by cases hq), trivial⟩
/-- an int's bounds -/
def inI (n : Int) : Prop := -9223372036854775808 ≤ n ∧ n ≤ 9223372036854775807
theorem DatT.int {t : TypeId} (h : P.underlying t = some (.int .i64)) : DatT P t Int inI := fun H enc W cs ho => by
  obtain ⟨n, rfl, hn⟩ := ho.int h
  have := bounds_i64 hn
  exact ⟨n, rfl, fun q hq => (by cases hq), by unfold inI; omega⟩
theorem DatT.bool {t : TypeId} (h : P.underlying t = some .bool) : DatT P t Bool (fun _ => True) := fun H enc W cs ho => by
  obtain ⟨n, rfl⟩ := ho.bool h
  exact ⟨n, rfl, fun q hq => (by cases hq), trivial⟩
theorem DatT.string {t : TypeId} (h : P.underlying t = some .string) : DatT P t ByteArray (fun s => s.size ≤ reachBytes) := fun H enc W cs ho => by
  obtain ⟨n, rfl, hn⟩ := ho.string h
  exact ⟨n, rfl, fun q hq => (by cases hq), hn⟩
theorem DatT.slice {t e B : Nat} {Bd : α → Prop} (ht : P.underlying t = some (.slice e)) (hc : P.cellsOf e = Dat.sz α) (hB : P.bytesOf e = B) (he : DatT P e α Bd) : DatT P t (Sl α) (fun s => s.l.length * B ≤ reachBytes ∧ ∀ x ∈ s.l, Bd x) := fun H enc W cs ho => by
  rcases ho.slice ht with h1 | ⟨a, len, cap, h1, hl, hm, hr, hx⟩
  · refine ⟨⟨none, 0, []⟩, h1, ?_, by simp, by simp⟩
    intro q hq
    have hq : q = ⟨Dat.sz α, .slice none 0 0, 0, Dat.cs ([] : List α)⟩ := by simp [Dat.g] at hq; exact hq
    subst hq
    exact ⟨Dat.pos, by simp [Dat.cs_eq], by simp [Dat.cs_eq], none, 0, rfl, by simp, by simp, by simp, by simp [Dat.cs_eq]⟩
  · rw [hc, hB] at *
    obtain ⟨xs, g1, g2⟩ := choose_list (q := fun i (x : α) => (∀ j u, (Dat.c x)[j]? = some u → W.cell? (a.add (i * Dat.sz α + j)) = some u) ∧ RdAll W (Dat.g x) ∧ Bd x) (n := len) (fun i hi => by
      obtain ⟨es, e1, e2, e3⟩ := hx i hi
      obtain ⟨x, rfl, hg, hb⟩ := he H enc W es e3
      exact ⟨x, e2, hg, hb⟩)
    subst g1
    have g2' : ∀ x ∈ xs, RdAll W (Dat.g x) ∧ Bd x := fun x hx => by
      obtain ⟨i, hi, rfl⟩ := List.getElem_of_mem hx
      exact (g2 i _ (List.getElem?_eq_getElem hi)).2
    refine ⟨⟨some a, cap, xs⟩, h1, ?_, Nat.le_trans (Nat.mul_le_mul_right _ hl) hr, fun x hx => (g2' x hx).2⟩
    intro q hq
    have hq : q = ⟨Dat.sz α, .slice (some a) xs.length cap, xs.length, Dat.cs xs⟩ ∨ q ∈ xs.flatMap Dat.g := List.mem_cons.1 hq
    rcases hq with rfl | hq
    · refine ⟨Dat.pos, Dat.cs_len xs, ?_, some a, cap, rfl, hl, hm, by simp, ?_⟩
      · intro u hu
        rw [Dat.cs_eq] at hu
        obtain ⟨x, hx, hu⟩ := List.mem_flatMap.1 hu
        exact Dat.one x u hu
      · intro b hb j u hu
        cases hb
        have hj : j < xs.length * Dat.sz α := by rw [← Dat.cs_len]; exact (List.getElem?_eq_some_iff.1 hu).1
        have hi : j / Dat.sz α < xs.length := Nat.div_lt_of_lt_mul (by rw [Nat.mul_comm]; exact hj)
        have hmod := Nat.mod_lt j (Dat.pos (α := α))
        have ej : j / Dat.sz α * Dat.sz α + j % Dat.sz α = j := Nat.div_add_mod' j _
        have := (g2 _ _ (List.getElem?_eq_getElem hi)).1 (j % Dat.sz α) u (by rw [← Dat.cs_at (List.getElem?_eq_getElem hi) hmod, ej]; exact hu)
        rwa [ej] at this
    · obtain ⟨x, hx, hq⟩ := List.mem_flatMap.1 hq
      exact (g2' x hx).1 q hq
theorem DatF.cons {t t' off n i : Nat} {fs : Array Field} {B1 : α → Prop} {B2 : β → Prop} (ht : P.underlying t = some (.struct fs)) (hf : (fs[i]?).map (fun f => (f.type, f.offset)) = some (t', off)) (hc : P.cellsOf t' = n) (h1 : DatT P t' α B1) (h2 : DatF P t (off + n) β B2) : DatF P t off (α × β) (fun x => B1 x.1 ∧ B2 x.2) := fun H enc W cs ho => by
  obtain ⟨x, e1, g1, b1⟩ := h1 H enc W _ (ho.field ht i t' off hf hc)
  obtain ⟨y, e2, g2, b2⟩ := h2 H enc W cs ho
  refine ⟨(x, y), ?_, g1.app g2, b1, b2⟩
  show cs.drop off = Dat.c x ++ Dat.c y
  rw [← e1, ← e2, ← List.drop_drop, List.take_append_drop]
theorem DatF.last {t t' off n i : Nat} {fs : Array Field} {B1 : α → Prop} (ht : P.underlying t = some (.struct fs)) (hf : (fs[i]?).map (fun f => (f.type, f.offset)) = some (t', off)) (hc : P.cellsOf t' = n) (h1 : DatT P t' α B1) (hl : P.cellsOf t = off + n) : DatF P t off α B1 := fun H enc W cs ho => by
  obtain ⟨x, e1, g1, b1⟩ := h1 H enc W _ (ho.field ht i t' off hf hc)
  refine ⟨x, ?_, g1, b1⟩
  rw [← e1, List.take_of_length_le]
  have := (ho.struct ht).1
  rw [List.length_drop]; omega
theorem DatF.all {t : Nat} {B1 : α → Prop} (h : DatF P t 0 α B1) : DatT P t α B1 := fun H enc W cs ho => by
  obtain ⟨x, e, g⟩ := h H enc W cs ho
  exact ⟨x, by simpa using e, g⟩
end
end Go.Proofs.Ythamkpjiecigjaa

/- More rules: comparisons with nil; readable slices cut. No program is named. -/
namespace Go.Proofs.Ythamkpjiecigjaa
set_option linter.unusedVariables false
set_option linter.unusedSimpArgs false
open Go.RowKit
section
variable {P : Program} {N : Nat} {F : FE} {As L L0 : List SA} {o : Oper} {x y : Operand} {u : Value}
theorem Y.cmpNilS {t yt e n c : Nat} {a : Option Addr} {neg : Bool} (ho : o.op = .binOp (if neg then .neq else .eql) t x y yt) (hu : P.underlying t = some (.slice e)) (hx : evO F x = some (.slice a n c)) (hy : evO F y = some (.slice none 0 0)) : Yld P N o F As (.bool (if neg then !a.isNone else a.isNone)) := fun a' w ha _ => by
  unfold execOp; rw [ho]
  replace hx := ha.eval hx
  replace hy := ha.eval hy
  generalize a'.eval = ρ at hx hy ⊢
  cases neg
  · simp [hx, hy, eqGuard, binOp, run_equal_slice_nil _ t e a n c hu, go_sem]
  · simp [hx, hy, eqGuard, binOp, run_equal_slice_nil _ t e a n c hu, go_sem]
theorem Y.eqNilS {t yt e n c : Nat} {a : Option Addr} (ho : o.op = .binOp .eql t x y yt) (hu : P.underlying t = some (.slice e)) (hx : evO F x = some (.slice a n c)) (hy : evO F y = some (.slice none 0 0)) : Yld P N o F As (.bool a.isNone) := Y.cmpNilS (neg := false) ho hu hx hy
theorem Y.neNilS {t yt e n c : Nat} {a : Option Addr} (ho : o.op = .binOp .neq t x y yt) (hu : P.underlying t = some (.slice e)) (hx : evO F x = some (.slice a n c)) (hy : evO F y = some (.slice none 0 0)) : Yld P N o F As (.bool (!a.isNone)) := Y.cmpNilS (neg := true) ho hu hx hy
theorem Y.cmpNilP {t yt e : Nat} {p : Option Addr} {neg : Bool} (ho : o.op = .binOp (if neg then .neq else .eql) t x y yt) (hu : P.underlying t = some (.pointer e)) (hx : evO F x = some (.pointer p)) (hy : evO F y = some (.pointer none)) : Yld P N o F As (.bool (if neg then !p.isNone else p.isNone)) := fun a' w ha _ => by
  have hu : P.underlying t = some (.pointer (P.pointee t)) := by
    have : P.pointee t = e := by unfold Program.pointee; rw [hu]
    rw [this]; exact hu
  unfold execOp; rw [ho]
  replace hx := ha.eval hx
  replace hy := ha.eval hy
  generalize a'.eval = ρ at hx hy ⊢
  cases neg
  · simp [hx, hy, eqGuard, binOp, run_equal_pointer_nil _ t p hu, go_sem]
  · simp [hx, hy, eqGuard, binOp, run_equal_pointer_nil _ t p hu, go_sem]
theorem Y.eqNilP {t yt e : Nat} {p : Addr} (ho : o.op = .binOp .eql t x y yt) (hu : P.underlying t = some (.pointer e)) (hx : evO F x = some (.pointer (some p))) (hy : evO F y = some (.pointer none)) : Yld P N o F As (.bool false) := Y.cmpNilP (neg := false) ho hu hx hy
theorem Y.neNilP {t yt e : Nat} {p : Addr} (ho : o.op = .binOp .neq t x y yt) (hu : P.underlying t = some (.pointer e)) (hx : evO F x = some (.pointer (some p))) (hy : evO F y = some (.pointer none)) : Yld P N o F As (.bool true) := Y.cmpNilP (neg := true) ho hu hx hy
theorem Y.eqNil0 {t yt e : Nat} (ho : o.op = .binOp .eql t x y yt) (hu : P.underlying t = some (.pointer e)) (hx : evO F x = some (.pointer none)) (hy : evO F y = some (.pointer none)) : Yld P N o F As (.bool true) := Y.cmpNilP (neg := false) ho hu hx hy
theorem Y.neNil0 {t yt e : Nat} (ho : o.op = .binOp .neq t x y yt) (hu : P.underlying t = some (.pointer e)) (hx : evO F x = some (.pointer none)) (hy : evO F y = some (.pointer none)) : Yld P N o F As (.bool false) := Y.cmpNilP (neg := true) ho hu hx hy
theorem own_cut {a : Option Addr} {n cap k : Nat} {sz : Nat} : ∀ q ∈ own (cutV a cap k n sz), q ∈ own (.slice a n cap) := by
  intro q hq
  unfold cutV at hq
  split at hq
  · cases a with
    | none => simp [own] at hq
    | some p => simpa [own] using hq
  · cases a with
    | none => simp [own] at hq
    | some p => simpa [own, add_block] using hq
theorem Ent.dropRds {sz n cap k : Nat} {a : Option Addr} {cs : List Value} (hk : k ≤ n) : Ent (SA.rds sz (.slice a n cap) n cs :: L) (SA.rds sz (cutV a cap k n sz) (n - k) (cs.drop (k * sz)) :: L) := Ent.imp fun w O R h =>
  ⟨O, R, ⟨fun hn q hq => h.1 (by omega) q (own_cut q hq), h.2.drop hk⟩, fun _ h => h, fun _ h => .inr h⟩
theorem Ent.cutRds {n cap k : Nat} {a : Option Addr} {l : List UInt8} (hk : k ≤ n) : Ent (SA.rds 1 (.slice a n cap) n (l.map v8) :: L) (SA.rds 1 (.slice a k cap) k ((l.take k).map v8) :: SA.rds 1 (cutV a cap k n 1) (n - k) ((l.drop k).map v8) :: L) := by
  have h := (Ent.dup Dup.rds).trans ((Ent.takeRds (sz := 1) (a := a) (cap := cap) (cs := l.map v8) hk).trans (Ent.under (L := SA.rds 1 (.slice a n cap) n (l.map v8) :: L) _ (Ent.dropRds hk)))
  simpa [List.map_take, List.map_drop] using h
/-! ### slice literals of structs -/
theorem flat_len' {sz : Nat} {vs : List Value} (h : ∀ v ∈ vs, v.cells.size = sz) : (vs.flatMap (·.cells.toList)).length = vs.length * sz := by
  induction vs with
  | nil => simp
  | cons x r ih => rw [List.flatMap_cons, List.length_append, ih (fun v hv => h v (by simp [hv])), Array.length_toList, h x (by simp), List.length_cons, Nat.add_mul]; omega
theorem writeAt_app (xs ys : List Value) : ∀ (cs : Array Value) (o : Nat), writeAt cs o (xs ++ ys) = writeAt (writeAt cs o xs) (o + xs.length) ys := by
  induction xs with
  | nil => intro cs o; rfl
  | cons x r ih => intro cs o; simp only [List.cons_append, writeAt, ih, List.length_cons]; congr 1; omega
theorem fold_write (l : List Value) : ∀ (cs : Array Value) (o k : Nat), (l.zipIdx k).foldl (fun cs (p : Value × Nat) => cs.setIfInBounds (o + p.2) p.1) cs = writeAt cs (o + k) l := by
  induction l with
  | nil => intro cs o k; rfl
  | cons v r ih => intro cs o k; simp only [List.zipIdx_cons, List.foldl_cons, writeAt, ih]; rfl
theorem fill_flat {sz : Nat} (vs : List Value) : ∀ (k : Nat) (cells : Array Value), (∀ v ∈ vs, v.cells.size = sz) → (k + vs.length) * sz ≤ cells.size →
    Instr.fill (fun i => some (i * sz, sz)) cells ((List.range' k vs.length).zip vs) = some (writeAt cells (k * sz) (vs.flatMap (·.cells.toList))) := by
  induction vs with
  | nil => intro k cells _ _; rfl
  | cons v r ih =>
    intro k cells h1 hk
    have hs := h1 v (by simp)
    simp only [List.length_cons] at hk ⊢
    rw [List.range'_succ, List.zip_cons_cons, Instr.fill]
    have h2 : k * sz + sz ≤ (k + (r.length + 1)) * sz := by rw [← Nat.succ_mul]; exact Nat.mul_le_mul_right _ (by omega)
    have hc : ¬ (k * sz + v.cells.size > cells.size) := by rw [hs]; omega
    have hf : v.cells.zipIdx.foldl (fun cs (p : Value × Nat) => cs.setIfInBounds (k * sz + p.2) p.1) cells = writeAt cells (k * sz) v.cells.toList := by
      rw [← Array.foldl_toList, Array.toList_zipIdx]
      exact fold_write v.cells.toList cells (k * sz) 0
    have := ih (k + 1) (writeAt cells (k * sz) v.cells.toList) (fun u hu => h1 u (by simp [hu])) (by rw [writeAt_size]; rw [show k + 1 + r.length = k + (r.length + 1) by omega]; exact hk)
    have hd : (decide (v.cells.size ≠ sz) || decide (k * sz + v.cells.size > cells.size)) = false := by simp [hs]; omega
    simp only [hd, Bool.false_eq_true, if_false]
    show Instr.fill _ (v.cells.zipIdx.foldl (fun cs (p : Value × Nat) => cs.setIfInBounds (k * sz + p.2) p.1) cells) _ = _
    rw [hf, this, List.flatMap_cons, writeAt_app]
    congr 2
    rw [Nat.add_mul, Array.length_toList, hs, Nat.one_mul]
/-- a slice literal of structs, all given -/
theorem X.litA {t e sz bytes n : Nat} {z : Value} {parts : List (Nat × Operand)} {vs cells : List Value} (ho : o.op = .buildSlice t n parts.toArray) (hu : P.underlying t = some (.slice e)) (hz : ((P.info? e).bind fun i => i.zero.map fun z => (i.size, z.cells.size)) = some (sz, sz)) (hp : evA F (parts.map (·.2)) = some vs) (hi : parts.map (·.1) = List.range' 0 vs.length) (hlen : vs.length = n) (hn : n * sz ≤ 16777216) (hpos : 0 < sz) (hm : n ≤ maxLen)
    (h1 : vs.all (fun v => v.cells.size == sz) = true) (hc : vs.flatMap (·.cells.toList) = cells) (hone : cells.all (·.oneCell') = true) :
    Eff P N o F L (fun v L' => ∃ g, v = .slice (some ⟨g, 0, none⟩) n n ∧ L' = SA.owns e sz (.slice (some ⟨g, 0, none⟩) n n) n cells :: L) := by
  have h1' : ∀ v ∈ vs, v.cells.size = sz := fun v hv => by simpa using List.all_eq_true.1 h1 v hv
  obtain ⟨inf, hinf, hq⟩ := Option.bind_eq_some_iff.1 hz
  obtain ⟨zv, hzv, hq2⟩ := Option.map_eq_some_iff.1 hq
  simp only [Prod.mk.injEq] at hq2
  have hlc : cells.length = n * sz := by rw [← hc, ← hlen]; exact flat_len' h1'
  have := X.buildSlice (L := L) (e := e) (sz := sz) (cells := cells.toArray) ho hp (N := N) (P := P) (fun w => ?_) (by simpa using hlc) (by simpa using hone) hm
  · simpa using this
  · rw [hi]
    have hcn : ¬ (n * sz > 2 ^ 24) := by omega
    unfold Instr.buildSlice
    simp only [Sem.run_bind, run_underlying hu, Result.andThen_ok, sizeOf, typeInfo, List.toList_toArray]
    simp only [Sem.run_bind, run_program, Result.andThen_ok, hinf, Sem.run_pure, hq2.1]
    have hfill : ∀ zz : Array Value, Instr.fill (fun i => some (i * sz, sz)) (Array.map (fun x => zz[x % zz.size]!) (Array.range (n * sz))) ((List.range' 0 vs.length).zip vs) = some cells.toArray := fun zz => by
      rw [fill_flat vs 0 _ h1' (by simp [hlen]), hc, Nat.zero_mul, writeAt_all _ _ (by simp [hlc])]
    have hzr : (zeroValue e).run P w = .ok zv w := by simp [zeroValue, typeInfo, hinf, hzv, go_sem]
    have htail : ∀ zz : Array Value, Sem.run P (match Instr.fill (fun i => some (i * sz, sz)) (Array.map (fun x => zz[x % zz.size]!) (Array.range (n * sz))) ((List.range' 0 vs.length).zip vs) with
        | some cells => do
          let r ← newRow e cells
          pure (Value.slice (some r) n n)
        | x => stuck "buildSlice: a part of the wrong size") w = Result.ok (Value.slice (some { block := w.heap.size, off := 0 }) n n) (w.alloc (Obj.cells cells.toArray e)) := fun zz => by
      rw [hfill]
      rfl
    rw [if_neg hcn]
    by_cases h0 : n * sz = 0
    · rw [if_pos h0]
      exact htail #[]
    · rw [if_neg h0, Sem.run_bind, hzr, Result.andThen_ok]
      exact htail zv.cells
theorem holds_nil : ∀ w, Holds L w → Holds [] w := fun w _ A hA => by cases hA
theorem holds_cons {A : SA} (hA : In A L) (h : ∀ w, Holds L w → Holds As w) : ∀ w, Holds L w → Holds (A :: As) w := fun w hw B hB => by
  cases hB with
  | here => exact hw _ hA
  | there hB => exact h w hw B hB
end
end Go.Proofs.Ythamkpjiecigjaa

/- Bits of ints that are not negative; more on ints. No program is named. -/
namespace Go.Proofs.Ythamkpjiecigjaa
set_option linter.unusedVariables false
set_option linter.unusedSimpArgs false
open Go.RowKit
theorem ofInt_nat (m : Nat) : BitVec.ofInt 64 (m : Int) = BitVec.ofNat 64 m := by
  apply BitVec.eq_of_toNat_eq; simp
theorem br_andN {m n : Nat} (hm : m < 9223372036854775808) (hn : n < 9223372036854775808) : BR .and .i64 m .i64 n (vN (m &&& n)) := fun P w t => by
  show Result.ok (Value.int .i64 (IntKind.i64.wrap ((BitVec.ofInt 64 (m : Int) &&& BitVec.ofInt 64 (n : Int)).toNat : Nat))) w = _
  rw [ofInt_nat, ofInt_nat, BitVec.toNat_and, BitVec.toNat_ofNat, BitVec.toNat_ofNat, Nat.mod_eq_of_lt (by omega), Nat.mod_eq_of_lt (by omega)]
  have : m &&& n ≤ m := Nat.and_le_left
  rw [wrap_i64 _ (by omega) (by omega)]
theorem br_orN {m n : Nat} (hm : m < 9223372036854775808) (hn : n < 9223372036854775808) : BR .or .i64 m .i64 n (vN (m ||| n)) := fun P w t => by
  show Result.ok (Value.int .i64 (IntKind.i64.wrap ((BitVec.ofInt 64 (m : Int) ||| BitVec.ofInt 64 (n : Int)).toNat : Nat))) w = _
  rw [ofInt_nat, ofInt_nat, BitVec.toNat_or, BitVec.toNat_ofNat, BitVec.toNat_ofNat, Nat.mod_eq_of_lt (by omega), Nat.mod_eq_of_lt (by omega)]
  have : m ||| n < 2 ^ 63 := Nat.or_lt_two_pow (by omega) (by omega)
  rw [wrap_i64 _ (by omega) (by omega)]
theorem br_shlN {m n c : Nat} {k : IntKind} (hc : 2 ^ n = c) (hn : n ≤ 64) (h : m * c < 9223372036854775808) : BR .shl .i64 m k n (vN (m * c)) := fun P w t => by
  subst hc
  have hneg : ¬ ((n : Int) < 0) := by omega
  show (Op.shift .shl .i64 (m : Int) k (n : Int)).run P w = _
  unfold Op.shift
  rw [if_neg hneg]
  show Result.ok (Value.int .i64 (IntKind.i64.wrap ((m : Int) * (2 ^ (min (n : Int).toNat 64))))) w = _
  have e : ((m : Int) * 2 ^ n) = ((m * 2 ^ n : Nat) : Int) := by rw [Int.natCast_mul, Int.natCast_pow]; rfl
  rw [Int.toNat_natCast, Nat.min_eq_left hn, e, wrap_i64 _ (by omega) (by omega)]
theorem br_shrN {m n c : Nat} {k : IntKind} (hc : 2 ^ n = c) (hn : n ≤ 64) : BR .shr .i64 m k n (vN (m / c)) := fun P w t => by
  subst hc
  have hneg : ¬ ((n : Int) < 0) := by omega
  show (Op.shift .shr .i64 (m : Int) k (n : Int)).run P w = _
  unfold Op.shift
  rw [if_neg hneg]
  show Result.ok (Value.int .i64 ((m : Int).fdiv (2 ^ (min (n : Int).toNat 64)))) w = _
  congr 2
  rw [Int.fdiv_eq_ediv_of_nonneg _ (by exact Int.le_of_lt (Int.pow_pos (by decide)))]
  simp only [Int.toNat_natCast]
  rw [Nat.min_eq_left hn, Int.natCast_ediv, Int.natCast_pow]; rfl
end Go.Proofs.Ythamkpjiecigjaa

/- More rules: tuples, max and min of ints, data put together. No program is named. -/
namespace Go.Proofs.Ythamkpjiecigjaa
set_option linter.unusedVariables false
set_option linter.unusedSimpArgs false
open Go.RowKit
section
variable {P : Program} {N : Nat} {F : FE} {As L L0 : List SA} {o : Oper} {x y z : Operand} {v : Value}
theorem Y.extract {i : Nat} {vs : Array Value} (ho : o.op = .extract x i) (hx : evO F x = some (.tuple vs)) (hv : vs[i]? = some v) : Yld P N o F As v := fun a w ha _ => by
  unfold execOp; rw [ho]
  replace hx := ha.eval hx
  generalize a.eval = ρ at hx ⊢
  simp [hx, Instr.extract, hv, go_sem]
theorem Y.minI {m n : Int} {at' : Array TypeId} (ho : o.op = .call { callee := .builtin .min, args := #[x, y], argTypes := at' }) (hx : evO F x = some (vI m)) (hy : evO F y = some (vI n)) : Yld P N o F As (vI (min m n)) := fun a w ha hw => by
  unfold execOp; rw [ho]
  replace hx := ha.eval hx
  replace hy := ha.eval hy
  generalize a.eval = ρ at hx hy ⊢
  simp [resolve, invoke, builtin, hx, hy, Builtin.min_, Builtin.min2, Result.andThen, Oper.upon, go_sem]
  split <;> omega
theorem Y.maxI {m n : Int} {at' : Array TypeId} (ho : o.op = .call { callee := .builtin .max, args := #[x, y], argTypes := at' }) (hx : evO F x = some (vI m)) (hy : evO F y = some (vI n)) : Yld P N o F As (vI (max m n)) := fun a w ha hw => by
  unfold execOp; rw [ho]
  replace hx := ha.eval hx
  replace hy := ha.eval hy
  generalize a.eval = ρ at hx hy ⊢
  simp [resolve, invoke, builtin, hx, hy, Builtin.max_, Builtin.max2, Result.andThen, Oper.upon, go_sem]
  split <;> omega
theorem Y.negI {t : TypeId} {n : Int} (ho : o.op = .unOp .neg t x) (hx : evO F x = some (vI n)) (h1 : -9223372036854775808 ≤ -n) (h2 : -n ≤ 9223372036854775807) : Yld P N o F As (vI (-n)) := fun a w ha _ => by
  unfold execOp; rw [ho]
  replace hx := ha.eval hx
  generalize a.eval = ρ at hx ⊢
  have := wrap_i64 (-n) h1 h2
  simp [hx, Op.unary, Op.intArith, go_sem]
  simpa using this
end
theorem br_mulI {m n : Int} (h1 : -9223372036854775808 ≤ m * n) (h2 : m * n ≤ 9223372036854775807) : BR .mul .i64 m .i64 n (.int .i64 (m * n)) := fun P w t => by
  simp [binOp, Op.intArith, go_sem]; exact wrap_i64 _ h1 h2
theorem tdiv_le {m n : Int} (h : 0 < n) (h1 : -9223372036854775808 ≤ m) (h2 : m ≤ 9223372036854775807) : -9223372036854775808 ≤ m.tdiv n ∧ m.tdiv n ≤ 9223372036854775807 := by
  have h3 : (m.tdiv n).natAbs ≤ m.natAbs := by rw [Int.natAbs_tdiv]; exact Nat.div_le_self _ _
  rcases Int.le_total 0 m with h0 | h0
  · have : 0 ≤ m.tdiv n := Int.tdiv_nonneg h0 (by omega)
    omega
  · have h4 : 0 ≤ (-m).tdiv n := Int.tdiv_nonneg (by omega) (by omega)
    rw [Int.neg_tdiv] at h4
    omega
theorem br_quoI {m n : Int} (h : 0 < n) (h1 : -9223372036854775808 ≤ m) (h2 : m ≤ 9223372036854775807) : BR .quo .i64 m .i64 n (.int .i64 (m.tdiv n)) := fun P w t => by
  have : ¬ (n = 0) := by omega
  simp [binOp, Op.intDiv, this, go_sem]
  exact wrap_i64 _ (tdiv_le h h1 h2).1 (tdiv_le h h1 h2).2
theorem br_remI {m n : Int} (h : n ≠ 0) : BR .rem .i64 m .i64 n (.int .i64 (m.tmod n)) := fun P w t => by
  simp [binOp, Op.intDiv, h, go_sem]
theorem br_rem16 {x y : UInt16} (h : y ≠ 0) : BR .rem .u16 x.toNat .u16 y.toNat (v16 (x % y)) := fun P w t => by
  have h0 : y.toNat ≠ 0 := fun e => h (UInt16.toNat_inj.1 e)
  simp [binOp, Op.intDiv, h0, go_sem]
  try rw [Int.tmod_eq_emod_of_nonneg (by omega)]
  try rfl
/-- differences of uint64s that were int64s -/
theorem br_subU {a b : Int} : BR .sub .u64 (a % 18446744073709551616) .u64 (b % 18446744073709551616) (.int .u64 ((a - b) % 18446744073709551616)) := fun P w t => by
  simp [binOp, Op.intArith, go_sem, wrap_u64]
theorem allOne {l : List Value} (h : l.all (·.oneCell') = true) : ∀ v ∈ l, v.oneCell' = true := List.all_eq_true.1 h
/-- '-k & 3' -/
theorem br_negand3 {k : Nat} (h : k < 65536) : BR .and .i64 (-(k : Int)) .i64 3 (vN ((4 - k % 4) % 4)) := fun P w t => by
  show Result.ok (Value.int .i64 (IntKind.i64.wrap ((BitVec.ofInt 64 (-(k : Int)) &&& BitVec.ofInt 64 3).toNat : Nat))) w = _
  have e : (BitVec.ofInt 64 (-(k : Int)) &&& BitVec.ofInt 64 3).toNat = (4 - k % 4) % 4 := by
    rw [BitVec.toNat_and, BitVec.toNat_ofInt, show (BitVec.ofInt 64 3).toNat = 2 ^ 2 - 1 from rfl, Nat.and_two_pow_sub_one_eq_mod]
    omega
  rw [e, wrap_i64 _ (by omega) (by omega)]
/-- a piece of a slice that is read -/
theorem Rd.cut {w : World} {sz n cap lo hi : Nat} {a : Option Addr} {cs : List Value} (h : Rd w sz (.slice a n cap) n cs) (h1 : lo ≤ hi) (h2 : hi ≤ n) : Rd w sz (cutV a cap lo hi sz) (hi - lo) ((cs.drop (lo * sz)).take ((hi - lo) * sz)) :=
  (h.drop (k := lo) (by omega)).take (k := hi - lo) (by omega)
section
variable {P : Program} {As : List SA} {A : SA}
theorem Src.cut {sz n cap lo hi tx e' : Nat} {a : Option Addr} {cs : List Value} (hA : Reads A sz (.slice a n cap) n cs) (hk : P.underlying tx = some (.slice e')) (h : In A As) (h1 : lo ≤ hi) (h2 : hi ≤ n) :
    ∀ w, Holds As w → Src P sz tx (cutV a cap lo hi sz) (hi - lo) ((cs.drop (lo * sz)).take ((hi - lo) * sz)) w := fun w hw => by
  obtain ⟨O, R, hp⟩ := hw A h
  exact ((hA w O R hp).cut h1 h2).src hk
theorem Src.cut8 {n cap lo hi tx e' : Nat} {a : Option Addr} {l : List UInt8} (hA : Reads A 1 (.slice a n cap) n (l.map v8)) (hk : P.underlying tx = some (.slice e')) (h : In A As) (h1 : lo ≤ hi) (h2 : hi ≤ n) :
    ∀ w, Holds As w → Src P 1 tx (cutV a cap lo hi 1) (hi - lo) (((l.drop lo).take (hi - lo)).map v8) w := by
  have := Src.cut (P := P) (As := As) hA hk h h1 h2
  simpa [List.map_take, List.map_drop] using this
end
section
variable {As : List SA} {A : SA} {v : Value}
theorem Cel.rds0 {sz n cap : Nat} {g off : Nat} {cs : List Value} (h : In (SA.rds sz (.slice (some ⟨g, off, none⟩) n cap) n cs) As) (hv : cs[0]? = some v) : Cel As ⟨g, off, none⟩ v := Cel.rdsB (j := 0) h hv
theorem Cel.owns0 {e sz n cap : Nat} {g off : Nat} {cs : List Value} (h : In (SA.owns e sz (.slice (some ⟨g, off, none⟩) n cap) n cs) As) (hv : cs[0]? = some v) : Cel As ⟨g, off, none⟩ v := Cel.owns (j := 0) h hv
end
/-- a piece of bytes that are read, beside the whole -/
theorem Ent.cutRds2 {L : List SA} {n cap lo hi : Nat} {a : Option Addr} {l : List UInt8} (h1 : lo ≤ hi) (h2 : hi ≤ n) :
    Ent (SA.rds 1 (.slice a n cap) n (l.map v8) :: L) (SA.rds 1 (cutV a cap lo hi 1) (hi - lo) (((l.drop lo).take (hi - lo)).map v8) :: SA.rds 1 (.slice a n cap) n (l.map v8) :: L) := by
  refine (Ent.dup Dup.rds).trans (Ent.imp fun w O R h => ⟨O, R, ⟨fun hn q hq => h.1 (by omega) q (own_cut (k := lo) (sz := 1) q ?_), ?_⟩, fun _ h => h, fun _ h => .inr h⟩)
  · revert hq
    unfold cutV
    generalize (if cap = lo then a else a.map (·.add (lo * 1))) = a'
    cases a' <;> simp [own]
  · have := h.2.cut h1 h2
    simpa [List.map_take, List.map_drop] using this
end Go.Proofs.Ythamkpjiecigjaa

/- Lending: a function that only reads is handed what is owned. No program is named. -/
namespace Go.Proofs.Ythamkpjiecigjaa
set_option linter.unusedVariables false
set_option linter.unusedSimpArgs false
open Go.RowKit
section
variable {P : Program} {N : Nat} {F : FE} {As Bs L L0 : List SA} {A B : SA} {w : World}
/-- B can be read where A is -/
def Lend1 (A B : SA) : Prop := ∀ w O R, A.p w O R → ∃ R', B.p w (fun _ => False) R' ∧ ∀ k, R' k → O k ∨ R k
theorem Lend1.same (h : Dup A) : Lend1 A A := fun w O R hp => ⟨R, h w O R hp, fun _ h => .inr h⟩
theorem Lend1.own {e sz n : Nat} {v : Value} {cs : List Value} : Lend1 (SA.owns e sz v n cs) (SA.rds sz v n cs) := fun w O R h => ⟨O, ⟨fun _ => h.1, h.2.rd⟩, fun _ h => .inl h⟩
theorem Lend1.rds {sz n : Nat} {v : Value} {cs : List Value} : Lend1 (SA.rds sz v n cs) (SA.rds sz v n cs) := Lend1.same Dup.rds
theorem Lend1.blk {b t : Nat} {cs : Array Value} : Lend1 (SA.blk b cs t) (SA.rblk b cs t) := fun w O R h => ⟨O, h, fun _ h => .inl h⟩
inductive Lend : List SA → List SA → Prop
  | nil : Lend [] []
  | cons {A B : SA} {As Bs : List SA} : Lend1 A B → Lend As Bs → Lend (A :: As) (B :: Bs)
theorem Lend.all (h : Lend As Bs) : Lend1 (SA.all As) (SA.all Bs) := by
  induction h with
  | nil => exact fun w O R _ => ⟨fun _ => False, trivial, fun _ h => h.elim⟩
  | cons h1 _ ih =>
    rintro w O R ⟨O1, R1, O2, R2, hA, hL, r1, r2, r3, r4⟩
    obtain ⟨R1', hA', e1⟩ := h1 _ _ _ hA
    obtain ⟨R2', hL', e2⟩ := ih _ _ _ hL
    refine ⟨fun k => R1' k ∨ R2' k, ⟨fun _ => False, R1', fun _ => False, R2', hA', hL', fun _ h => h.elim, fun _ h => h.elim, fun _ h => .inl h, fun _ h => .inr h⟩, ?_⟩
    rintro k (h | h)
    · exact (e1 k h).elim (fun h => .inl (r1 k h).1) (fun h => .inr (r3 k h))
    · exact (e2 k h).elim (fun h => .inl (r2 k h).1) (fun h => .inr (r4 k h))
/-- owned alone -/
def OO (A : SA) : Prop := ∀ w O R, A.p w O R → A.p w O (fun _ => False)
theorem OO.owns {e sz n : Nat} {v : Value} {cs : List Value} : OO (SA.owns e sz v n cs) := fun _ _ _ h => h
theorem OO.blk {b t : Nat} {cs : Array Value} : OO (SA.blk b cs t) := fun _ _ _ h => h
theorem OO.all : ∀ Ln : List SA, (∀ A, In A Ln → OO A) → OO (SA.all Ln)
  | [], _ => fun _ _ _ _ => trivial
  | A :: Ln, h => fun w O R ⟨O1, R1, O2, R2, hA, hL, r1, r2, r3, r4⟩ =>
    ⟨O1, fun _ => False, O2, fun _ => False, h A In.here w O1 R1 hA, OO.all Ln (fun B hB => h B (In.there hB)) w O2 R2 hL, fun k hk => ⟨(r1 k hk).1, (r1 k hk).2.1, id⟩, fun k hk => ⟨(r2 k hk).1, id⟩, fun _ h => h, fun _ h => h⟩
/-- it can be come back to -/
def SA.lease (Z : SA) : SA := ⟨fun w O R => ∃ O0 R0, Z.p w O0 R0 ∧ (∀ k, O0 k → R k) ∧ (∀ k, R0 k → R k), fun {w w' O R} ⟨O0, R0, h, h1, h2⟩ hg => ⟨O0, R0, Z.loc h (hg.mono fun k _ hk => .inr (hk.elim (h1 k) (h2 k))), h1, h2⟩⟩
theorem St.all {L : List SA} : St L w ↔ St [SA.all L] w := by
  constructor
  · intro h
    have := (Ent.doall L).st (by rw [List.append_nil]; exact h)
    exact this
  · intro h
    have := (Ent.unall (L := []) L).st h
    rwa [List.append_nil] at this
theorem Fn.lend {f : FuncId} {args : List Value} {R : Value → List SA → Prop} (hl : Lend As Bs) (h : Fn P f args Bs (fun v L' => ∃ Ln, R v Ln ∧ (∀ A, In A Ln → OO A) ∧ L' = Ln ++ Bs)) (L : List SA) :
    Fn P f args (As ++ L) (fun v L' => ∃ Ln, R v Ln ∧ L' = Ln ++ (As ++ L)) := fun X w hw => by
  -- Z: all there is
  have hZ : St [SA.star (SA.all As) (SA.star X (SA.all L))] w := by
    have h1 : Ent (X :: (As ++ L)) [SA.star (SA.all As) (SA.star X (SA.all L))] := by
      have e1 : Ent (X :: (As ++ L)) (X :: SA.all As :: L) := Ent.under _ (Ent.doall As)
      have e2 : Ent (X :: SA.all As :: L) (SA.all As :: X :: L) := Ent.swap
      have e3 : Ent (SA.all As :: X :: L) (SA.all As :: X :: [SA.all L]) := Ent.under _ (Ent.under _ (by have := Ent.doall (L := []) L; rwa [List.append_nil] at this))
      exact e1.trans (e2.trans (e3.trans ((Ent.unstarE.under _).trans Ent.unstarE)))
    exact h1.st hw
  generalize hz : SA.star (SA.all As) (SA.star X (SA.all L)) = Z at hZ
  obtain ⟨O0, R0, ⟨O1, R1, O2, R2, hA, -, r1, r2, r3, r4⟩, hb⟩ := hZ
  have hZp : Z.p w O1 R1 := hA
  have hlent : ∃ R', (SA.all Bs).p w (fun _ => False) R' ∧ ∀ k, R' k → O1 k ∨ R1 k := by
    rw [← hz] at hZp
    obtain ⟨O3, R3, O4, R4, hAs, -, q1, -, q3, -⟩ := hZp
    obtain ⟨R', g1, g2⟩ := hl.all _ _ _ hAs
    exact ⟨R', g1, fun k hk => (g2 k hk).elim (fun h => .inl (q1 k h).1) (fun h => .inr (q3 k h))⟩
  obtain ⟨R', hB, hR'⟩ := hlent
  have hbd : ∀ k, O1 k ∨ R1 k → k < w.heap.size := fun k hk => hb k (hk.imp (fun h => (r1 k h).1) (fun h => r3 k h))
  have hst : St (SA.lease Z :: Bs) w := by
    have : St [SA.star (SA.lease Z) (SA.all Bs)] w := ⟨fun _ => False, fun k => O1 k ∨ R1 k, ⟨fun _ => False, fun k => O1 k ∨ R1 k, fun _ => False, fun _ => False,
      ⟨fun _ => False, fun k => O1 k ∨ R1 k, fun _ => False, R', ⟨O1, R1, hA, fun _ h => .inl h, fun _ h => .inr h⟩, hB, fun _ h => h.elim, fun _ h => h.elim, fun _ h => h, hR'⟩, trivial, fun _ h => h.elim, fun _ h => h.elim, fun _ h => h, fun _ h => h.elim⟩, fun k hk => hk.elim (fun h => h.elim) (hbd k)⟩
    have h2 := Ent.starE.st this
    have h3 := ((Ent.unall (L := []) Bs).under _).st h2
    rwa [List.append_nil] at h3
  refine (h (SA.lease Z) w hst).mono ?_
  rintro e w' ⟨v, L', rfl, ⟨Ln, hR, hoo, rfl⟩, hw'⟩
  refine ⟨v, Ln ++ (As ++ L), rfl, ⟨Ln, hR, rfl⟩, ?_⟩
  -- the new ones and the lease
  have h1 : St [SA.lease Z, SA.all Ln] w' := by
    have e : Ent (SA.lease Z :: (Ln ++ Bs)) [SA.lease Z, SA.all Ln] := Ent.under _ ((Ent.doall Ln).trans (Ent.under _ Ent.nil))
    exact e.st hw'
  obtain ⟨O, R, ⟨O5, R5, O6, R6, ⟨O7, R7, hz7, g1, g2⟩, ⟨O8, R8, O9, R9, hn, -, s1, -, s3, -⟩, q1, q2, q3, q4⟩, hb'⟩ := h1
  have hn' := OO.all Ln hoo _ _ _ hn
  have h2 : St [SA.star (SA.all Ln) Z] w' := by
    refine ⟨fun k => O8 k ∨ O7 k, R7, ⟨fun k => O8 k ∨ O7 k, R7, fun _ => False, fun _ => False, ⟨O8, fun _ => False, O7, R7, hn', hz7, fun k hk => ⟨.inl hk, fun e => ?_, fun e => ?_⟩, fun k hk => ⟨.inr hk, id⟩, fun _ h => h.elim, fun _ h => h⟩, trivial, fun k hk => ⟨hk, id, id⟩, fun _ h => h.elim, fun _ h => h, fun _ h => h.elim⟩, ?_⟩
    · exact (q2 k (s1 k hk).1).2 (g1 k e)
    · exact (q2 k (s1 k hk).1).2 (g2 k e)
    · rintro k ((hk | hk) | hk)
      · exact hb' k (.inl (q2 k (s1 k hk).1).1)
      · exact hb' k (.inr (q3 k (g1 k hk)))
      · exact hb' k (.inr (q3 k (g2 k hk)))
  have e : Ent [SA.star (SA.all Ln) Z] (X :: (Ln ++ (As ++ L))) := by
    refine Ent.starE.trans ?_
    rw [← hz]
    refine (Ent.under _ Ent.starE).trans ?_
    refine (Ent.under _ (Ent.under _ Ent.starE)).trans ?_
    refine Ent.cons (A := X) (Pull.there (Pull.there Pull.here)) ?_
    refine (Ent.unall Ln).trans ?_
    have e1 : Ent [SA.all As, SA.all L] (As ++ L) := by
      refine (Ent.unall As).trans ?_
      have e0 : ∀ M : List SA, Ent (M ++ [SA.all L]) (M ++ L) := fun M => by
        induction M with
        | nil => have := Ent.unall (L := []) L; rwa [List.append_nil] at this
        | cons B M ih => exact ih.under B
      exact e0 As
    have e2 : ∀ M : List SA, Ent (M ++ [SA.all As, SA.all L]) (M ++ (As ++ L)) := fun M => by
      induction M with
      | nil => exact e1
      | cons B M ih => exact ih.under B
    exact e2 Ln
  exact e.st h2
/-- nothing new is handed back -/
theorem Fn.lend0 {f : FuncId} {args : List Value} {φ : Value → Prop} (hl : Lend As Bs) (h : Fn P f args Bs (fun v L' => φ v ∧ L' = Bs)) (L : List SA) : Fn P f args (As ++ L) (fun v L' => φ v ∧ L' = As ++ L) :=
  (Fn.lend (R := fun v Ln => φ v ∧ Ln = []) hl (h.mono fun v L' ⟨h1, h2⟩ => ⟨L', Ent.refl, [], ⟨h1, rfl⟩, fun A hA => (by cases hA), by rw [h2]; rfl⟩) L).mono fun v L' ⟨Ln, ⟨h1, h2⟩, h3⟩ => ⟨L', Ent.refl, h1, by rw [h3, h2]; rfl⟩
end
end Go.Proofs.Ythamkpjiecigjaa

/- Equality of structs of scalars. No program is named. -/
namespace Go.Proofs.Ythamkpjiecigjaa
set_option linter.unusedVariables false
set_option linter.unusedSimpArgs false
open Go.RowKit
section
variable {P : Program} {N : Nat} {F : FE} {As L L0 : List SA} {o : Oper} {x y z : Operand} {v : Value}
/-- these two of type t are equal, or not -/
def EqV (P : Program) (t : TypeId) (a b : Value) (r : Bool) : Prop := ∀ d w, (Op.equalIn (d + 1) t a b).run P w = .ok r w
theorem EqV.int {t : TypeId} {k k' : IntKind} {a b : Int} (h : P.underlying t = some (.int k')) : EqV P t (.int k a) (.int k b) (a == b) := fun d w => run_equalIn_int w d t k k' a b h
theorem EqV.bool {t : TypeId} {a b : Bool} (h : P.underlying t = some .bool) : EqV P t (.bool a) (.bool b) (a == b) := fun d w => run_equalIn_bool w d t a b h
theorem EqV.str {t : TypeId} {a b : ByteArray} (h : P.underlying t = some .string) : EqV P t (.string a) (.string b) (a.toList == b.toList) := fun d w => run_equalIn_string w d t a b h
inductive FEq (P : Program) (xs ys : Array Value) : List (Bool × Nat × Nat) → Bool → Prop
  | nil : FEq P xs ys [] true
  | cons {t off : Nat} {a b : Value} {r1 r2 : Bool} {l : List (Bool × Nat × Nat)} : Program.isSc P t = true → xs[off]? = some a → ys[off]? = some b → EqV P t a b r1 → FEq P xs ys l r2 → FEq P xs ys ((false, t, off) :: l) (r1 && r2)
theorem part_sc {t off : Nat} {xs : Array Value} {a : Value} (hs : Program.isSc P t = true) (h : xs[off]? = some a) (w : World) : (part t xs off).run P w = .ok a w := by
  unfold Program.isSc at hs
  cases hq : P.underlying t with
  | none => simp [hq] at hs
  | some d => cases d <;> simp [hq] at hs <;> simp [part, isAgg, run_underlying hq, h, go_sem]
theorem FEq.run {xs ys : Array Value} (d : Nat) (w : World) : ∀ (fs : List Field) (l : List (Bool × Nat × Nat)) (r : Bool), fs.map (fun f => (f.name == "_", f.type, f.offset)) = l → FEq P xs ys l r → (Op.eqFields (d + 1) xs ys fs).run P w = .ok r w
  | [], _, _, rfl, h => by cases h; simp [Op.eqFields, go_sem]
  | f :: fs, _, _, e, h => by
    subst e
    simp only [List.map_cons] at h
    generalize hn : (f.name == "_") = nm at h
    cases h with
    | cons h1 h2 h3 h4 h5 =>
      have hn' : f.name ≠ "_" := by simpa using hn
      have ih := FEq.run d w fs _ _ rfl h5
      simp only [Op.eqFields, hn', ne_eq, not_false_eq_true, if_true, Sem.run_bind, part_sc h1 h2, part_sc h1 h3, Result.andThen_ok, h4 d w]
      rename_i r1 r2
      cases r1
      · simp [go_sem]
      · simpa using ih
theorem Y.cmpSt {t yt : Nat} {xs ys : Array Value} {l : List (Bool × Nat × Nat)} {r neg : Bool} (ho : o.op = .binOp (if neg then .neq else .eql) t x y yt) (hf : P.underlying t = some (.struct (P.fieldsOf t))) (hp : P.stoodInHeld t = false) (hg : P.eqGuardType P.depth t = false)
    (hl : (P.fieldsOf t).toList.map (fun f => (f.name == "_", f.type, f.offset)) = l) (hx : evO F x = some (.agg xs)) (hy : evO F y = some (.agg ys)) (h : FEq P xs ys l r) : Yld P N o F As (.bool (if neg then !r else r)) := fun a w ha _ => by
  unfold execOp; rw [ho]
  replace hx := ha.eval hx
  replace hy := ha.eval hy
  generalize a.eval = ρ at hx hy ⊢
  have e : (Op.equalIn 10000 t (.agg xs) (.agg ys)).run P w = .ok r w := by rw [run_equalIn_struct w 9999 t xs ys hf hp]; exact FEq.run 9998 w _ _ _ hl h
  cases neg
  · simp only [Bool.false_eq_true, if_false, hx, hy, Sem.run_bind, run_eqGuard_agg w .eql t x y _ _ hg, Result.andThen_ok, run_eql_struct, e, Sem.run_pure]
  · simp only [if_true, hx, hy, Sem.run_bind, run_eqGuard_agg w .neq t x y _ _ hg, Result.andThen_ok, run_neq_struct, e, Sem.run_pure]
theorem Y.eqSt {t yt : Nat} {xs ys : Array Value} {l : List (Bool × Nat × Nat)} {r : Bool} (ho : o.op = .binOp .eql t x y yt) (hf : P.underlying t = some (.struct (P.fieldsOf t))) (hp : P.stoodInHeld t = false) (hg : P.eqGuardType P.depth t = false)
    (hl : (P.fieldsOf t).toList.map (fun f => (f.name == "_", f.type, f.offset)) = l) (hx : evO F x = some (.agg xs)) (hy : evO F y = some (.agg ys)) (h : FEq P xs ys l r) : Yld P N o F As (.bool r) := Y.cmpSt (neg := false) ho hf hp hg hl hx hy h
theorem Y.neSt {t yt : Nat} {xs ys : Array Value} {l : List (Bool × Nat × Nat)} {r : Bool} (ho : o.op = .binOp .neq t x y yt) (hf : P.underlying t = some (.struct (P.fieldsOf t))) (hp : P.stoodInHeld t = false) (hg : P.eqGuardType P.depth t = false)
    (hl : (P.fieldsOf t).toList.map (fun f => (f.name == "_", f.type, f.offset)) = l) (hx : evO F x = some (.agg xs)) (hy : evO F y = some (.agg ys)) (h : FEq P xs ys l r) : Yld P N o F As (.bool (!r)) := Y.cmpSt (neg := true) ho hf hp hg hl hx hy h
end
end Go.Proofs.Ythamkpjiecigjaa

/- What slices.Delete does to a slice of one's own; a round of yield as one step. No program is named. -/
namespace Go.Proofs.Ythamkpjiecigjaa
set_option linter.unusedVariables false
set_option linter.unusedSimpArgs false
open Go.RowKit
section
variable {κ : Ctx} {P : Program} {N : Nat} {F : FE} {As L L0 : List SA} {A : SA} {o : Oper} {x y z u : Operand} {v : Value}
/-- s[k:h:m] -/
theorem Y.slice3 {t e sz n cap k h m : Nat} {a : Option Addr} (ho : o.op = .slice t x (some y) (some z) (some u)) (hu : P.underlying t = some (.slice e)) (hs : (P.info? e).map (·.size) = some sz) (hx : evO F x = some (.slice a n cap)) (hy : evO F y = some (vN k)) (hz : evO F z = some (vN h)) (hm : evO F u = some (vN m)) (h1 : k ≤ h) (h2 : h ≤ m) (h3 : m ≤ cap) :
    Yld P N o F As (.slice (if m = k then a else a.map (·.add (k * sz))) (h - k) (m - k)) := fun a' w ha hw => by
  unfold execOp; rw [ho]
  replace hx := ha.eval hx
  replace hy := ha.eval hy
  replace hz := ha.eval hz
  replace hm := ha.eval hm
  generalize a'.eval = ρ at hx hy hz hm ⊢
  obtain ⟨inf, hinf, he⟩ := Option.map_eq_some_iff.1 hs
  subst he
  simp [hx, hy, hz, hm, Instr.sliceAt, Instr.slice, Instr.sliceBounds, Instr.sliceBound, asIntOf, run_underlying hu, sizeOf, typeInfo, hinf, go_sem, h1, h2, h3]
/-- 'append(s[:i], s[j:]...)' -/
theorem X.appendCut {t tx e e' sz bytes n cap g off i j : Nat} {z : Value} {cs : List Value} (ho : o.op = .call { callee := .builtin .append, args := #[x, y], argTypes := #[t, tx] }) (E : Elt P t e sz bytes z) (hk : P.underlying tx = some (.slice e'))
    (hx : evO F x = some (.slice (some ⟨g, off, none⟩) i cap)) (hp : Pull (SA.owns e sz (.slice (some ⟨g, off, none⟩) n cap) n cs) L L0) (hy : evO F y = some (cutV (some ⟨g, off, none⟩) cap j n sz)) (hij : i ≤ j) (hjn : j ≤ n) (hnc : n ≤ cap) :
    Eff P N o F L (fun v L' => v = .slice (some ⟨g, off, none⟩) (i + (n - j)) cap ∧ L' = SA.owns e sz (.slice (some ⟨g, off, none⟩) (i + (n - j)) cap) (i + (n - j)) (cs.take (i * sz) ++ cs.drop (j * sz)) :: L0) := by
  refine ⟨by rw [ho]; simp, fun Y a w ha hw K Q hK => ?_⟩
  unfold Oper.wp execOp; rw [ho]
  replace hx := ha.eval hx
  replace hy := ha.eval hy
  have hst := (Pull.there (B := Y) hp).st hw
  have hO := hst.isOwn
  have hsrc : Src P sz tx (cutV (some ⟨g, off, none⟩) cap j n sz) (n - j) (cs.drop (j * sz)) w := (hO.rd.drop hjn).src hk
  have hT : Own w e sz (.slice (some ⟨g, off, none⟩) i cap) i (cs.take (i * sz)) := hO.take (by omega)
  obtain ⟨w', hrun, r1, r2⟩ := run_app_fits (P := P) (ty := o.type) E hT hsrc (by omega)
  generalize a.eval = ρ at hx hy ⊢
  simp [resolve, invoke, builtin, hx, hy, hrun, Result.andThen, Oper.upon]
  exact hK _ _ _ ⟨rfl, rfl⟩ (St.up1 (hst.frS r2 fun O R hA => ⟨fun k hk => hA.1 k (by simpa [own] using hk), O, R, ⟨fun k hk => hA.1 k (by simpa [own] using hk), r1⟩, fun k hk => .inl hk, fun k hk => .inr (.inl hk)⟩))
/-- 'clear(s[m:k])', behind the end of s -/
theorem X.clearTail {t e sz bytes m k cap g off : Nat} {z : Value} {cs : List Value} (ho : o.op = .call { callee := .builtin .clear, args := #[x], argTypes := #[t] }) (E : Elt P t e sz bytes z)
    (hx : evO F x = some (cutV (some ⟨g, off, none⟩) cap m k sz)) (hp : Pull (SA.owns e sz (.slice (some ⟨g, off, none⟩) m cap) m cs) L L0) (h1 : m ≤ k) (h2 : k ≤ cap) (h3 : m < cap) :
    Eff P N o F L (fun _ L' => L' = SA.owns e sz (.slice (some ⟨g, off, none⟩) m cap) m cs :: L0) := by
  refine ⟨by rw [ho]; simp, fun Y a w ha hw K Q hK => ?_⟩
  unfold Oper.wp execOp; rw [ho]
  replace hx := ha.eval hx
  have hst := (Pull.there (B := Y) hp).st hw
  have hO := hst.isOwn
  have hcv : cutV (some ⟨g, off, none⟩) cap m k sz = .slice (some ⟨g, off + m * sz, none⟩) (k - m) (cap - m) := by
    unfold cutV; rw [if_neg (by omega)]; simp [Addr.add_lit]
  rw [hcv] at hx
  obtain ⟨arr, hb, hsz⟩ : ∃ arr, Blk w g arr e ∧ off + cap * sz ≤ arr.size := by
    rcases hO.val with ⟨hv, _⟩ | ⟨g', off', cap', arr, hv, hb1, _, _, e3, _⟩
    · cases hv
    · cases hv
      exact ⟨arr, hb1, e3⟩
  have hmul : m * sz + (k - m) * sz = k * sz := by rw [← Nat.add_mul]; congr 1; omega
  have hkc : k * sz ≤ cap * sz := Nat.mul_le_mul_right _ h2
  have hrun := run_clear_own (P := P) (ty := o.type) (cap := cap - m) (n := k - m) E hb (off := off + m * sz) (by omega) rfl
  have hl : (Builtin.zeroCells z.cells (k - m)).toList.length = (k - m) * sz := by
    obtain ⟨i, hi, hz0, rfl, rfl⟩ := info_parts E.hi
    rw [Array.length_toList, size_zeroCells, E.hz]
  have hfin := hO.beyond (Builtin.zeroCells z.cells (k - m)).toList (off + m * sz) (Nat.le_refl _) (by rw [hl]; omega)
  generalize a.eval = ρ at hx ⊢
  simp [resolve, invoke, builtin, hx, hrun, Result.andThen, Oper.upon]
  refine hK _ _ _ rfl (St.up1 (hst.frS (S := [g]) (Fr.setCells _ _ _ (Fr.refl _ _) (by simp)) fun O R hA => ⟨fun k hk => hA.1 k (by simpa [own] using hk), O, R, ⟨fun k hk => hA.1 k (by simpa [own] using hk), hfin⟩, fun k hk => .inl hk, fun k hk => .inr (.inl hk)⟩))
/-- a round, as one step -/
theorem X.yieldB {l n i : Nat} {arg : Nat → List Value} {S : Nat → SA} {Sx : SA} {f : Operand} {args : List Operand} {at' : Array TypeId} (hY : YS P l n arg S Sx) (ho : o.op = .call { callee := .value f, args := args.toArray, argTypes := at' })
    (hf : evO F f = some (yieldV l)) (hv : evA F args = some (arg i)) (hi : i < n) (hp : Pull (S i) L L0) :
    EffI P N o F L (fun v L' => ∃ bo, v = .bool bo ∧ L' = (cond bo (S (i + 1)) Sx) :: L0) := by
  intro r Y a w ha hw K Q hK
  refine X.yield hY ho hf hv hi hp r Y a w ha hw K Q fun v L' w' hR hw' => hK v L' w' ?_ hw'
  rcases hR with ⟨rfl, rfl⟩ | ⟨rfl, rfl⟩
  · exact ⟨true, rfl, rfl⟩
  · exact ⟨false, rfl, rfl⟩
/-- no way out of the loop -/
theorem Ent.self_app {L L' : List SA} (h : Ent L L') : Ent L (L' ++ []) := by rw [List.append_nil]; exact h
/-- a slice literal of one struct -/
theorem X.litD {α : Type} [Dat α] {t e sz : Nat} (x : α) {p : Operand} (ho : o.op = .buildSlice t 1 #[(0, p)]) (hu : P.underlying t = some (.slice e)) (hz : ((P.info? e).bind fun i => i.zero.map fun z => (i.size, z.cells.size)) = some (sz, sz)) (hp : evO F p = some (.agg (Dat.c x).toArray)) (hs : Dat.sz α = sz) (hn : sz ≤ 16777216) :
    Eff P N o F L (fun v L' => ∃ g, v = .slice (some ⟨g, 0, none⟩) 1 1 ∧ L' = SA.owns e sz (.slice (some ⟨g, 0, none⟩) 1 1) 1 (Dat.c x) :: L) :=
  X.litA (bytes := 0) (z := .nilFunc) (vs := [.agg (Dat.c x).toArray]) (cells := Dat.c x) (parts := [(0, p)]) ho hu hz (by simp [evA, hp]) rfl rfl (by omega) (hs ▸ Dat.pos) (by simp [maxLen]) (by simp [Value.cells, Dat.len, hs]) (by simp [Value.cells]) (List.all_eq_true.2 (Dat.one x))
/-- with others beside -/
theorem Ent.app {L1 L2 L : List SA} (h : Ent L1 L2) : Ent (L1 ++ L) (L2 ++ L) := by
  refine (Ent.doall L1).trans (Ent.trans (Ent.imp fun w O R hp => ?_) (Ent.unall L2))
  exact h w O R hp
theorem Ent.app2 {A B C D : SA} {L : List SA} (h : Ent [A, B, C] [D]) : Ent (A :: B :: C :: L) (D :: L) := Ent.app h
theorem Ent.rdssDrop {gs hs : List G} {L L1 : List SA} (hp : Pull (SA.rdss gs) L L1) (h : ∀ q ∈ hs, q ∈ gs) : Ent L (SA.rdss hs :: L1) := hp.ent.trans ((Ent.rdss_sub h).trans (Ent.under _ Ent.drop))
theorem Ent.addEl {α : Type} [Dat α] {x : α} {ys : List α} {L L1 L2 : List SA} (h1 : Pull (SA.rdss (ys.flatMap Dat.g)) L L1) (h2 : Pull (SA.dat x) L1 L2) : Ent L (SA.rdss ((ys ++ [x]).flatMap Dat.g) :: L2) := by
  rw [List.flatMap_append, List.flatMap_singleton]
  exact h1.ent.trans ((h2.ent.under _).trans Ent.rdssApp)
theorem Ent.mkOwn {α : Type} [Dat α] {e sz n cap : Nat} {a : Option Addr} {l : List α} {cells : List Value} {L L1 L2 : List SA} (h1 : Pull (SA.owns e sz (.slice a n cap) n cells) L L1) (h2 : Pull (SA.rdss (l.flatMap Dat.g)) L1 L2) (hn : l.length = n) (hs : Dat.sz α = sz) (hc : Dat.cs l = cells) : Ent L (SA.dat (⟨a, cap, l⟩ : Sl α) :: L2) :=
  h1.ent.trans ((h2.ent.under _).trans (Ent.freeze.trans (Ent.mkSl hn hs hc)))
theorem Ent.hang {α : Type} [Dat α] {a : Option Addr} {cap : Nat} {l : List α} {L L1 : List SA} (hp : Pull (SA.dat (⟨a, cap, l⟩ : Sl α)) L L1) : Ent L (SA.rdss (l.flatMap Dat.g) :: SA.dat (⟨a, cap, l⟩ : Sl α) :: L1) :=
  hp.ent.trans (Ent.rdss_sub fun q hq => List.mem_cons_of_mem _ hq)
end
end Go.Proofs.Ythamkpjiecigjaa

/- Writing elements of a slice of one's own; more on data in cells. No program is named. -/
namespace Go.Proofs.Ythamkpjiecigjaa
set_option linter.unusedVariables false
set_option linter.unusedSimpArgs false
open Go.RowKit
def wr (cs : List Value) (j : Nat) (vs : List Value) : List Value := cs.take j ++ vs ++ cs.drop (j + vs.length)
theorem wr_get (cs vs : List Value) (j i : Nat) (h : j + vs.length ≤ cs.length) : (wr cs j vs)[i]? = if j ≤ i ∧ i < j + vs.length then vs[i - j]? else cs[i]? := by
  have h1 : (cs.take j).length = j := by rw [List.length_take]; omega
  unfold wr
  by_cases h2 : i < j
  · rw [List.append_assoc, List.getElem?_append_left (by omega), List.getElem?_take, if_pos h2, if_neg (by omega)]
  · by_cases h3 : i < j + vs.length
    · rw [List.getElem?_append_left (by rw [List.length_append]; omega), List.getElem?_append_right (by omega), h1, if_pos (by omega)]
    · rw [List.getElem?_append_right (by rw [List.length_append]; omega), List.getElem?_drop, List.length_append, h1, if_neg (by omega)]
      congr 1; omega
theorem wr_len (cs vs : List Value) (j : Nat) (h : j + vs.length ≤ cs.length) : (wr cs j vs).length = cs.length := by
  unfold wr; simp only [List.length_append, List.length_take, List.length_drop]; omega
theorem Own.within {w : World} {e sz g off n cap : Nat} {cs : List Value} (h : Own w e sz (.slice (some ⟨g, off, none⟩) n cap) n cs) (vs : List Value) (h1 : ∀ v ∈ vs, v.oneCell' = true) (j : Nat) (hj : j + vs.length ≤ n * sz) :
    Own (w.setCells g (off + j) vs) e sz (.slice (some ⟨g, off, none⟩) n cap) n (wr cs j vs) := by
  have hl := h.len
  refine ⟨by rw [wr_len _ _ _ (by omega)]; exact hl, fun v hv => ?_, ?_⟩
  · unfold wr at hv
    rcases List.mem_append.1 hv with hv | hv
    · rcases List.mem_append.1 hv with hv | hv
      · exact h.one v (List.mem_of_mem_take hv)
      · exact h1 v hv
    · exact h.one v (List.mem_of_mem_drop hv)
  rcases h.val with ⟨hv, _⟩ | ⟨g', off', cap', arr, hv, hb, h2, h3, h4, h5⟩
  · cases hv
  · cases hv
    have hle : n * sz ≤ cap * sz := Nat.mul_le_mul_right _ h2
    refine .inr ⟨g, off, cap, _, rfl, hb.setCells vs w arr (off + j), h2, h3, by rw [writeAt_size]; exact h4, ?_⟩
    apply List.ext_getElem?
    intro i
    have hw := writeAt_get vs arr (off + j) (off + i) (by omega)
    rw [wr_get _ _ _ _ (by omega), ← h5]
    simp only [List.getElem?_take, List.getElem?_drop, Array.getElem?_toList, hw]
    by_cases hi : i < n * sz
    · rw [if_pos hi, if_pos hi]
      by_cases hij : j ≤ i ∧ i < j + vs.length
      · rw [if_pos (by omega), if_pos hij]; congr 1; omega
      · rw [if_neg (by omega), if_neg hij]
    · rw [if_neg hi, if_neg hi, if_neg (by omega)]
section
variable {P : Program} {N : Nat} {F : FE} {As L L0 : List SA} {o : Oper} {x y z : Operand} {v : Value}
/-- several cells stored through a slice of one's own -/
theorem X.storeOwnA {t e sz n cap g off q j m : Nat} {cs : List Value} {vs : Array Value} (ho : o.op = .store t x y) (hs : (P.info? t).map (·.size) = some m) (hmm : vs.size = m) (hx : evO F x = some (.pointer (some ⟨g, q, none⟩))) (hq : q = off + j) (hy : evO F y = some (.agg vs)) (h1 : ∀ v ∈ vs.toList, v.oneCell' = true)
    (hp : Pull (SA.owns e sz (.slice (some ⟨g, off, none⟩) n cap) n cs) L L0) {cs' : List Value} (hj : j + m ≤ n * sz) (he' : wr cs j vs.toList = cs') : Eff P N o F L (fun _ L' => L' = SA.owns e sz (.slice (some ⟨g, off, none⟩) n cap) n cs' :: L0) := by
  refine ⟨by rw [ho]; simp, fun Y a w ha hw K Q hK => ?_⟩
  subst he'; subst hq; subst hmm
  unfold Oper.wp execOp; rw [ho]
  replace hx := ha.eval hx
  replace hy := ha.eval hy
  simp only [hx, hy]
  have hst := (Pull.there (B := Y) hp).st hw
  have hO := hst.isOwn
  obtain ⟨inf, hinf, he⟩ := Option.map_eq_some_iff.1 hs
  have hlv : vs.toList.length = vs.size := by simp
  obtain ⟨arr, hb, hsz⟩ : ∃ arr, Blk w g arr e ∧ off + n * sz ≤ arr.size := by
    rcases hO.val with ⟨hv, _⟩ | ⟨g', off', cap', arr, hv, hb1, h2, _, e3, _⟩
    · cases hv
    · cases hv
      have := Nat.mul_le_mul_right sz h2
      exact ⟨arr, hb1, by omega⟩
  have hrun := run_storeCells_cells (P := P) g (off + j) vs.toList 0 w (fun i hi => by rw [hb.cell]; simp at hi ⊢; omega) (fun i hi => hb.frozen _) h1
  have hall : (Instr.storeAt t (.pointer (some ⟨g, off + j, none⟩)) (.agg vs)).run P w = .ok () (w.setCells g (off + j) vs.toList) := by
    unfold Instr.storeAt Instr.sureAddr storeVar
    simp only [Nat.add_zero] at hrun
    simp [sizeOf, typeInfo, hinf, he, Value.cells, hrun, go_sem]
  generalize Instr.storeAt t _ _ = s at hall ⊢
  simp [hall, go_sem]
  have hfin := hO.within vs.toList h1 j (by omega)
  exact hK _ _ _ rfl (St.up1 (hst.frS (S := [g]) (Fr.setCells _ _ _ (Fr.refl _ _) (by simp)) fun O R hA => ⟨fun k hk => hA.1 k (by simpa [own] using hk), O, R, ⟨fun k hk => hA.1 k (by simpa [own] using hk), hfin⟩, fun k hk => .inl hk, fun k hk => .inr (.inl hk)⟩))
end
theorem wr_mid (a b c c' d : List Value) (h : c.length = c'.length) : wr (a ++ (b ++ c) ++ d) (a.length + b.length) c' = a ++ (b ++ c') ++ d := by
  unfold wr
  have e1 : a ++ (b ++ c) ++ d = (a ++ b) ++ (c ++ d) := by simp [List.append_assoc]
  rw [e1, ← List.length_append, List.take_left, ← h, show (a ++ b).length + c.length = ((a ++ b) ++ c).length by simp [Nat.add_assoc], ← List.append_assoc (a ++ b) c d, List.drop_left]
  simp [List.append_assoc]
theorem set_wr (cs : List Value) (j : Nat) (v : Value) (h : j < cs.length) : cs.set j v = wr cs j [v] := by
  rw [wr, List.set_eq_take_append_cons_drop, if_pos h]; simp
theorem split_at {α : Type} {l : List α} {k : Nat} {x : α} (hx : l[k]? = some x) : l = l.take k ++ x :: l.drop (k + 1) := by
  obtain ⟨hi, he⟩ := List.getElem?_eq_some_iff.1 hx
  rw [← he, List.getElem_cons_drop, List.take_append_drop]
theorem set_at {α : Type} {l : List α} {k : Nat} {x : α} (y : α) (hx : l[k]? = some x) : l.set k y = l.take k ++ y :: l.drop (k + 1) := by
  obtain ⟨hi, he⟩ := List.getElem?_eq_some_iff.1 hx
  rw [List.set_eq_take_append_cons_drop, if_pos hi]
/-- the second half of an element, written over -/
theorem Dat.cs_snd {α β : Type} [Dat α] [Dat β] {l : List (α × β)} {k : Nat} {q : α} {y x : β} (hx : l[k]? = some (q, y)) : wr (Dat.cs l) (k * Dat.sz (α × β) + Dat.sz α) (Dat.c x) = Dat.cs (l.set k (q, x)) := by
  have hk : (l.take k).length = k := by have := (List.getElem?_eq_some_iff.1 hx).1; rw [List.length_take]; omega
  have e0 : Dat.cs l = Dat.cs (l.take k) ++ (Dat.c q ++ Dat.c y) ++ Dat.cs (l.drop (k + 1)) := by
    conv => lhs; rw [split_at hx]
    rw [Dat.cs_app, show (q, y) :: l.drop (k + 1) = [(q, y)] ++ l.drop (k + 1) from rfl, Dat.cs_app, Dat.cs_one, ← List.append_assoc]; rfl
  have e1 : Dat.cs (l.set k (q, x)) = Dat.cs (l.take k) ++ (Dat.c q ++ Dat.c x) ++ Dat.cs (l.drop (k + 1)) := by
    rw [set_at _ hx, Dat.cs_app, show (q, x) :: l.drop (k + 1) = [(q, x)] ++ l.drop (k + 1) from rfl, Dat.cs_app, Dat.cs_one, ← List.append_assoc]; rfl
  have e2 : k * Dat.sz (α × β) + Dat.sz α = (Dat.cs (l.take k)).length + (Dat.c q).length := by rw [Dat.cs_len, hk, Dat.len]
  rw [e0, e1, e2, wr_mid _ _ _ _ _ (by rw [Dat.len, Dat.len])]
/-- an element, written over -/
theorem Dat.cs_set {α : Type} [Dat α] {l : List α} {k : Nat} {y x : α} (hx : l[k]? = some y) : wr (Dat.cs l) (k * Dat.sz α) (Dat.c x) = Dat.cs (l.set k x) := by
  have hk : (l.take k).length = k := by have := (List.getElem?_eq_some_iff.1 hx).1; rw [List.length_take]; omega
  have e0 : Dat.cs l = Dat.cs (l.take k) ++ ([] ++ Dat.c y) ++ Dat.cs (l.drop (k + 1)) := by
    conv => lhs; rw [split_at hx]
    rw [Dat.cs_app, show y :: l.drop (k + 1) = [y] ++ l.drop (k + 1) from rfl, Dat.cs_app, Dat.cs_one, ← List.append_assoc]; rfl
  have e1 : Dat.cs (l.set k x) = Dat.cs (l.take k) ++ ([] ++ Dat.c x) ++ Dat.cs (l.drop (k + 1)) := by
    rw [set_at _ hx, Dat.cs_app, show x :: l.drop (k + 1) = [x] ++ l.drop (k + 1) from rfl, Dat.cs_app, Dat.cs_one, ← List.append_assoc]; rfl
  have e2 : k * Dat.sz α = (Dat.cs (l.take k)).length + ([] : List Value).length := by rw [Dat.cs_len, hk]; rfl
  rw [e0, e1, e2, wr_mid _ _ _ _ _ (by rw [Dat.len, Dat.len])]
theorem Dat.cs_drop {α : Type} [Dat α] (l : List α) (k : Nat) : Dat.cs (l.drop k) = (Dat.cs l).drop (k * Dat.sz α) := by
  have h : Dat.cs l = Dat.cs (l.take k) ++ Dat.cs (l.drop k) := by rw [← Dat.cs_app, List.take_append_drop]
  by_cases hk : k ≤ l.length
  · have hl : (Dat.cs (l.take k)).length = k * Dat.sz α := by rw [Dat.cs_len, List.length_take, Nat.min_eq_left hk]
    rw [h, ← hl, List.drop_left]
  · rw [List.drop_of_length_le (by omega), List.drop_of_length_le (by rw [Dat.cs_len]; exact Nat.mul_le_mul_right _ (by omega)), Dat.cs_eq]; rfl
theorem Cel.atS {α : Type} [Dat α] {As : List SA} {A : SA} {g off n cap i : Nat} {l : List α} {x : α} {v : Value} (hA : Reads A 1 (.slice (some ⟨g, off, none⟩) n cap) n (Dat.cs l)) (h : In A As) (hx : l[i]? = some x) (hv : (Dat.c x)[0]? = some v) (hs : Dat.sz α = 1 := by rfl) : Cel As ⟨g, off + i, none⟩ v := by
  have := Cel.at0 hA h hx hv hs
  rwa [Nat.mul_one] at this
theorem beqB (a b : ByteArray) : (a == b) = decide (a = b) := by
  rw [Bool.eq_iff_iff, decide_eq_true_eq]
  constructor
  · intro h
    have h2 : (a.data == b.data) = true := h
    have := eq_of_beq h2
    cases a; cases b; simp_all
  · rintro rfl
    show (a.data == a.data) = true
    exact beq_self_eq_true _
instance : LawfulBEq ByteArray where
  eq_of_beq {a b} h := by rw [beqB] at h; simpa using h
  rfl {a} := by rw [beqB]; simp
section
variable {P : Program} {N : Nat} {F : FE} {As : List SA} {o : Oper} {x y : Operand}
theorem toList_beq (a b : ByteArray) : (a.toList == b.toList) = (a == b) := by
  rw [beqB, Bool.eq_iff_iff, beq_iff_eq, decide_eq_true_eq]
  constructor
  · intro h
    have h1 := ByteArray.toList_eq a; have h2 := ByteArray.toList_eq b
    rw [h1, h2] at h
    cases a; cases b; simp_all
  · rintro rfl; rfl
theorem Y.cmpB {t yt : Nat} {a b : ByteArray} {neg : Bool} (ho : o.op = .binOp (if neg then .neq else .eql) t x y yt) (hx : evO F x = some (.string a)) (hy : evO F y = some (.string b)) : Yld P N o F As (.bool (if neg then !(a == b) else (a == b))) := fun c w ha _ => by
  unfold execOp; rw [ho]
  replace hx := ha.eval hx
  replace hy := ha.eval hy
  generalize c.eval = ρ at hx hy ⊢
  cases neg
  · simp [hx, hy, eqGuard, binOp, Op.stringOp, toList_beq, go_sem]
  · simp [hx, hy, eqGuard, binOp, Op.stringOp, toList_beq, go_sem]
theorem Y.eqB {t yt : Nat} {a b : ByteArray} (ho : o.op = .binOp .eql t x y yt) (hx : evO F x = some (.string a)) (hy : evO F y = some (.string b)) : Yld P N o F As (.bool (a == b)) := Y.cmpB (neg := false) ho hx hy
theorem Y.neB {t yt : Nat} {a b : ByteArray} (ho : o.op = .binOp .neq t x y yt) (hx : evO F x = some (.string a)) (hy : evO F y = some (.string b)) : Yld P N o F As (.bool (!(a == b))) := Y.cmpB (neg := true) ho hx hy
end
theorem Cels.snd {α β : Type} [Dat α] [Dat β] {As : List SA} {A : SA} {g off n cap sz i : Nat} {l : List (α × β)} {q : α} {y : β} (hA : Reads A sz (.slice (some ⟨g, off, none⟩) n cap) n (Dat.cs l)) (h : In A As) (hx : l[i]? = some (q, y)) (h1 : Dat.sz α = 1) (hs : Dat.sz (α × β) = sz := by rfl) : Cels As ⟨g, off + (i * sz + 1), none⟩ (Dat.c y) := fun w hw j u hj => by
  have hk : (Dat.c (q, y))[1 + j]? = some u := by
    show (Dat.c q ++ Dat.c y)[1 + j]? = some u
    rw [List.getElem?_append_right (by rw [Dat.len]; omega), Dat.len, h1, show 1 + j - 1 = j by omega]; exact hj
  have := Cel.at hA h hx hk hs w hw
  rw [Addr.add_lit, Nat.add_assoc, Nat.add_assoc]; exact this
theorem br_rem8 {x y : UInt8} (h : y ≠ 0) : BR .rem .u8 x.toNat .u8 y.toNat (v8 (x % y)) := fun P w t => by
  have h0 : y.toNat ≠ 0 := fun e => h (UInt8.toNat_inj.1 e)
  simp [binOp, Op.intDiv, h0, go_sem]
  try rw [Int.tmod_eq_emod_of_nonneg (by omega)]
  try rfl
/-- an int32 -/
structure J32 where
  n : Int
instance : Dat J32 := Dat.scalar (fun x => .int .i32 x.n) ⟨0⟩ fun _ => rfl
theorem Ent.rdss0' {gs : List G} {L : List SA} (h : gs = []) : Ent L (SA.rdss gs :: L) := by rw [h]; exact Ent.rdss0
theorem Ent.exI {α : Type} {f : α → SA} {L L' : List SA} (h : ∀ x, Ent (f x :: L) L') : Ent (SA.ex f :: L) L' := fun w O R hp => by
  obtain ⟨O1, R1, O2, R2, ⟨x, hx⟩, hL, r⟩ := hp
  exact h x w O R ⟨O1, R1, O2, R2, hx, hL, r⟩
/-- bytes of one's own, from now on read -/
theorem Ent.bytesD {e : Nat} {a : Option Addr} {n cap : Nat} {l : List UInt8} {L L1 : List SA} (h : Pull (SA.owns e 1 (.slice a n cap) n (l.map v8)) L L1) (hn : l.length = n) : Ent L (SA.dat (⟨a, cap, l⟩ : Bs) :: L1) := h.ent.trans (Ent.freeze.trans (Ent.mkBytes hn))
/-- scalars of one's own, from now on read -/
theorem Ent.scalD {α : Type} [Dat α] {e : Nat} {a : Option Addr} {n cap : Nat} {l : List α} {L L1 : List SA} (h : Pull (SA.owns e 1 (.slice a n cap) n (Dat.cs l)) L L1) (hn : l.length = n) (hs : Dat.sz α = 1) (hg : ∀ x : α, Dat.g x = []) : Ent L (SA.dat (⟨a, cap, l⟩ : Sl α) :: L1) := by
  have e0 : l.flatMap Dat.g = [] := by rw [List.flatMap_eq_nil_iff]; intro x _; exact hg x
  refine h.ent.trans (Ent.freeze.trans ((Ent.under _ (Ent.rdss0' e0)).trans (Ent.mkSl hn hs rfl)))
/-- two that are read, as a pair -/
theorem Ent.pairD {α β : Type} [Dat α] [Dat β] {x : α} {y : β} {L L1 L2 : List SA} (h1 : Pull (SA.dat x) L L1) (h2 : Pull (SA.dat y) L1 L2) : Ent L (SA.dat (x, y) :: L2) := h1.ent.trans ((h2.ent.under _).trans Ent.rdssApp)
/-- no bytes -/
theorem Ent.nilBs {L : List SA} : Ent L (SA.dat (⟨none, 0, []⟩ : Bs) :: L) := (Ent.nilOwn 0 1).trans (Ent.freeze.trans (Ent.mkBytes (l := []) rfl))
-- what lies under a key
theorem ne_take {κ ν : Type} {l : List (κ × ν)} {q : κ} {i : Nat} {x : κ × ν} (h : ∀ y ∈ l.take i, ¬ y.1 = q) (hx : l[i]? = some x) (hq : ¬ x.1 = q) : ∀ y ∈ l.take (i + 1), ¬ y.1 = q := by
  intro y hy
  rw [List.take_add_one, hx] at hy
  rcases List.mem_append.1 hy with hy | hy
  · exact h y hy
  · simp at hy; subst hy; exact hq
section
variable {κ ν : Type} [BEq κ]
def Fi (l : List (κ × ν)) (q : κ) : Option Nat := l.findIdx? fun e => e.1 == q
def iv (r : Option Nat) : Int := r.elim (-1) fun k => (k : Int)
def tput (most : Nat) (l : List (κ × ν)) (q : κ) (x : ν) : List (κ × ν) × Bool := match Fi l q with
  | some k => (l.set k (q, x), true)
  | none => if l.length = most then (l, false) else (l ++ [(q, x)], true)
def tget (d : ν) (l : List (κ × ν)) (q : κ) : ν × Bool := match l.find? (fun e => e.1 == q) with
  | some e => (e.2, true)
  | none => (d, false)
theorem Fi_some [LawfulBEq κ] {l : List (κ × ν)} {q : κ} {k : Nat} (h : Fi l q = some k) : k < l.length ∧ ∃ x, l[k]? = some (q, x) ∧ ∀ d, tget d l q = (x, true) := by
  obtain ⟨hk, hp, hj⟩ := List.findIdx?_eq_some_iff_getElem.1 h
  refine ⟨hk, l[k].2, ?_, fun d => ?_⟩
  · rw [List.getElem?_eq_getElem hk]; congr 1; exact Prod.ext (by simpa using hp) rfl
  · have : l.find? (fun e => e.1 == q) = some l[k] := by
      rw [List.find?_eq_some_iff_getElem]
      exact ⟨hp, k, hk, rfl, fun j hj' => by simpa using hj j hj'⟩
    unfold tget; rw [this]
theorem Fi_none {l : List (κ × ν)} {q : κ} (h : Fi l q = none) (d : ν) : tget d l q = (d, false) := by
  have : l.find? (fun e => e.1 == q) = none := by
    rw [List.find?_eq_none]
    intro e he
    have := List.findIdx?_eq_none_iff.1 h e he
    simp [this]
  unfold tget; rw [this]
theorem Fi_at [LawfulBEq κ] {l : List (κ × ν)} {q : κ} {k : Nat} {x : κ × ν} (h : ∀ y ∈ l.take k, ¬ y.1 = q) (hx : l[k]? = some x) (hq : x.1 = q) : Fi l q = some k := by
  obtain ⟨hk, hxe⟩ := List.getElem?_eq_some_iff.1 hx
  unfold Fi
  rw [List.findIdx?_eq_some_iff_getElem]
  refine ⟨hk, by rw [hxe]; simpa using hq, fun j hj => ?_⟩
  have := h (l[j]) (by rw [List.mem_take_iff_getElem]; exact ⟨j, by omega, rfl⟩)
  simpa using this
theorem Fi_no [LawfulBEq κ] {l : List (κ × ν)} {q : κ} (h : ∀ y ∈ l, ¬ y.1 = q) : Fi l q = none := by
  unfold Fi; rw [List.findIdx?_eq_none_iff]; intro y hy; simpa using h y hy
theorem tput_some {most : Nat} {l : List (κ × ν)} {q : κ} {x : ν} {k : Nat} (h : Fi l q = some k) : tput most l q x = (l.set k (q, x), true) := by unfold tput; rw [h]
theorem tput_full {most : Nat} {l : List (κ × ν)} {q : κ} {x : ν} (h : Fi l q = none) (hm : l.length = most) : tput most l q x = (l, false) := by unfold tput; rw [h]; exact if_pos hm
theorem tput_new {most : Nat} {l : List (κ × ν)} {q : κ} {x : ν} (h : Fi l q = none) (hm : ¬ l.length = most) : tput most l q x = (l ++ [(q, x)], true) := by unfold tput; rw [h]; exact if_neg hm
def tdrop (l : List (κ × ν)) (q : κ) : List (κ × ν) × Bool := match Fi l q with
  | some k => (l.eraseIdx k, true)
  | none => (l, false)
theorem tdrop_some {l : List (κ × ν)} {q : κ} {k : Nat} (h : Fi l q = some k) : tdrop l q = (l.eraseIdx k, true) := by unfold tdrop; rw [h]
theorem tdrop_none {l : List (κ × ν)} {q : κ} (h : Fi l q = none) : tdrop l q = (l, false) := by unfold tdrop; rw [h]
theorem tput_len {most : Nat} {l : List (κ × ν)} {q : κ} {x : ν} (h : l.length ≤ most) : (tput most l q x).1.length ≤ most := by
  unfold tput
  split
  · simpa using h
  · split
    · exact h
    · simp; omega
end
end Go.Proofs.Ythamkpjiecigjaa

/- The printed walks' side goals under short names. No program is named. -/
namespace Go.Proofs.Ythamkpjiecigjaa
set_option linter.unusedVariables false
set_option linter.unusedSimpArgs false
open Go.RowKit
section
variable {As L L' : List SA} {A : SA} {p : Addr} {v : Value} {φ : Prop}
theorem pul (h : Pull A L L' := by first | (with_reducible (repeat first | apply Pull.here | apply Pull.there); done) | (repeat first | apply Pull.here | apply Pull.there)) : Pull A L L' := h
theorem inn (h : In A L := by with_reducible (repeat first | apply In.here | apply In.there)) : In A L := h
theorem lnn (h : φ := by ((try simp only [List.length_set, List.length_map, List.length_append, List.length_replicate, List.size_toArray, List.length_cons, List.length_nil, Array.size_setIfInBounds]); (first | omega | exact of_decide_eq_true (by rfl)))) : φ := h
theorem szz (h : φ := by ((try simp only [List.size_toArray, List.length_set, List.length_map, List.length_append, List.length_replicate, List.length_cons, List.length_nil]); (first | done | omega | (simp [*]; done)))) : φ := h
theorem nqq (h : φ := by ((try simp only [Nat.zero_add, Nat.add_zero, Nat.mul_one, Nat.one_mul, Nat.mul_zero, Nat.zero_mul]) <;> rfl)) : φ := h
theorem ett (h : Ent L L' := by (repeat first | (with_reducible apply Ent.refl) | (with_reducible apply Ent.nil) | refine Ent.cons (by first | (with_reducible (repeat first | apply Pull.here | apply Pull.there); done) | (repeat first | apply Pull.here | apply Pull.there)) ?_ | refine Ent.skip ?_)) : Ent L L' := h
theorem cel8 (h : Cel As p v := by first | exact Cel.at0 Reads.owns (by with_reducible (repeat first | apply In.here | apply In.there)) (by assumption) (by rfl) | exact Cel.at Reads.owns (by with_reducible (repeat first | apply In.here | apply In.there)) (by assumption) (by rfl) | exact Cel.datAt0 (by with_reducible (repeat first | apply In.here | apply In.there)) (by assumption) (by rfl) | exact Cel.datAt (by with_reducible (repeat first | apply In.here | apply In.there)) (by assumption) (by rfl) | exact Cel.datAtS (by with_reducible (repeat first | apply In.here | apply In.there)) (by assumption) (by rfl) | exact Cel.blk (by with_reducible (repeat first | apply In.here | apply In.there)) (by first | exact getM (d := (0 : UInt8)) (by ((try simp only [List.length_set, List.length_map, List.length_append, List.length_replicate, List.size_toArray, List.length_cons, List.length_nil, Array.size_setIfInBounds]); (first | omega | exact of_decide_eq_true (by rfl)))) | rfl) | exact Cel.rblk (by with_reducible (repeat first | apply In.here | apply In.there)) (by first | exact getM (d := (0 : UInt8)) (by ((try simp only [List.length_set, List.length_map, List.length_append, List.length_replicate, List.size_toArray, List.length_cons, List.length_nil, Array.size_setIfInBounds]); (first | omega | exact of_decide_eq_true (by rfl)))) | rfl) | exact Cel.rds (by with_reducible (repeat first | apply In.here | apply In.there)) (getML (d := (0 : UInt8)) (by ((try simp only [List.length_set, List.length_map, List.length_append, List.length_replicate, List.size_toArray, List.length_cons, List.length_nil, Array.size_setIfInBounds]); (first | omega | exact of_decide_eq_true (by rfl))))) | exact Cel.rdsB (by with_reducible (repeat first | apply In.here | apply In.there)) (getML (d := (0 : UInt8)) (by ((try simp only [List.length_set, List.length_map, List.length_append, List.length_replicate, List.size_toArray, List.length_cons, List.length_nil, Array.size_setIfInBounds]); (first | omega | exact of_decide_eq_true (by rfl))))) | exact Cel.owns (by with_reducible (repeat first | apply In.here | apply In.there)) (getML (d := (0 : UInt8)) (by ((try simp only [List.length_set, List.length_map, List.length_append, List.length_replicate, List.size_toArray, List.length_cons, List.length_nil, Array.size_setIfInBounds]); (first | omega | exact of_decide_eq_true (by rfl))))) | exact Cel.reads (by assumption) (by with_reducible (repeat first | apply In.here | apply In.there)) (getML (d := (0 : UInt8)) (by ((try simp only [List.length_set, List.length_map, List.length_append, List.length_replicate, List.size_toArray, List.length_cons, List.length_nil, Array.size_setIfInBounds]); (first | omega | exact of_decide_eq_true (by rfl))))) | exact Cel.rds0 (by with_reducible (repeat first | apply In.here | apply In.there)) (getML (d := (0 : UInt8)) (by ((try simp only [List.length_set, List.length_map, List.length_append, List.length_replicate, List.size_toArray, List.length_cons, List.length_nil, Array.size_setIfInBounds]); (first | omega | exact of_decide_eq_true (by rfl))))) | exact Cel.owns0 (by with_reducible (repeat first | apply In.here | apply In.there)) (getML (d := (0 : UInt8)) (by ((try simp only [List.length_set, List.length_map, List.length_append, List.length_replicate, List.size_toArray, List.length_cons, List.length_nil, Array.size_setIfInBounds]); (first | omega | exact of_decide_eq_true (by rfl)))))) : Cel As p v := h
theorem cel16 (h : Cel As p v := by first | exact Cel.at0 Reads.owns (by with_reducible (repeat first | apply In.here | apply In.there)) (by assumption) (by rfl) | exact Cel.at Reads.owns (by with_reducible (repeat first | apply In.here | apply In.there)) (by assumption) (by rfl) | exact Cel.datAt0 (by with_reducible (repeat first | apply In.here | apply In.there)) (by assumption) (by rfl) | exact Cel.datAt (by with_reducible (repeat first | apply In.here | apply In.there)) (by assumption) (by rfl) | exact Cel.datAtS (by with_reducible (repeat first | apply In.here | apply In.there)) (by assumption) (by rfl) | exact Cel.blk (by with_reducible (repeat first | apply In.here | apply In.there)) (by first | exact getM (d := (0 : UInt16)) (by ((try simp only [List.length_set, List.length_map, List.length_append, List.length_replicate, List.size_toArray, List.length_cons, List.length_nil, Array.size_setIfInBounds]); (first | omega | exact of_decide_eq_true (by rfl)))) | rfl) | exact Cel.rblk (by with_reducible (repeat first | apply In.here | apply In.there)) (by first | exact getM (d := (0 : UInt16)) (by ((try simp only [List.length_set, List.length_map, List.length_append, List.length_replicate, List.size_toArray, List.length_cons, List.length_nil, Array.size_setIfInBounds]); (first | omega | exact of_decide_eq_true (by rfl)))) | rfl) | exact Cel.rds (by with_reducible (repeat first | apply In.here | apply In.there)) (getML (d := (0 : UInt16)) (by ((try simp only [List.length_set, List.length_map, List.length_append, List.length_replicate, List.size_toArray, List.length_cons, List.length_nil, Array.size_setIfInBounds]); (first | omega | exact of_decide_eq_true (by rfl))))) | exact Cel.rdsB (by with_reducible (repeat first | apply In.here | apply In.there)) (getML (d := (0 : UInt16)) (by ((try simp only [List.length_set, List.length_map, List.length_append, List.length_replicate, List.size_toArray, List.length_cons, List.length_nil, Array.size_setIfInBounds]); (first | omega | exact of_decide_eq_true (by rfl))))) | exact Cel.owns (by with_reducible (repeat first | apply In.here | apply In.there)) (getML (d := (0 : UInt16)) (by ((try simp only [List.length_set, List.length_map, List.length_append, List.length_replicate, List.size_toArray, List.length_cons, List.length_nil, Array.size_setIfInBounds]); (first | omega | exact of_decide_eq_true (by rfl))))) | exact Cel.reads (by assumption) (by with_reducible (repeat first | apply In.here | apply In.there)) (getML (d := (0 : UInt16)) (by ((try simp only [List.length_set, List.length_map, List.length_append, List.length_replicate, List.size_toArray, List.length_cons, List.length_nil, Array.size_setIfInBounds]); (first | omega | exact of_decide_eq_true (by rfl))))) | exact Cel.rds0 (by with_reducible (repeat first | apply In.here | apply In.there)) (getML (d := (0 : UInt16)) (by ((try simp only [List.length_set, List.length_map, List.length_append, List.length_replicate, List.size_toArray, List.length_cons, List.length_nil, Array.size_setIfInBounds]); (first | omega | exact of_decide_eq_true (by rfl))))) | exact Cel.owns0 (by with_reducible (repeat first | apply In.here | apply In.there)) (getML (d := (0 : UInt16)) (by ((try simp only [List.length_set, List.length_map, List.length_append, List.length_replicate, List.size_toArray, List.length_cons, List.length_nil, Array.size_setIfInBounds]); (first | omega | exact of_decide_eq_true (by rfl)))))) : Cel As p v := h
theorem cel32 (h : Cel As p v := by first | exact Cel.at0 Reads.owns (by with_reducible (repeat first | apply In.here | apply In.there)) (by assumption) (by rfl) | exact Cel.at Reads.owns (by with_reducible (repeat first | apply In.here | apply In.there)) (by assumption) (by rfl) | exact Cel.datAt0 (by with_reducible (repeat first | apply In.here | apply In.there)) (by assumption) (by rfl) | exact Cel.datAt (by with_reducible (repeat first | apply In.here | apply In.there)) (by assumption) (by rfl) | exact Cel.datAtS (by with_reducible (repeat first | apply In.here | apply In.there)) (by assumption) (by rfl) | exact Cel.blk (by with_reducible (repeat first | apply In.here | apply In.there)) (by first | exact getM (d := (0 : UInt32)) (by ((try simp only [List.length_set, List.length_map, List.length_append, List.length_replicate, List.size_toArray, List.length_cons, List.length_nil, Array.size_setIfInBounds]); (first | omega | exact of_decide_eq_true (by rfl)))) | rfl) | exact Cel.rblk (by with_reducible (repeat first | apply In.here | apply In.there)) (by first | exact getM (d := (0 : UInt32)) (by ((try simp only [List.length_set, List.length_map, List.length_append, List.length_replicate, List.size_toArray, List.length_cons, List.length_nil, Array.size_setIfInBounds]); (first | omega | exact of_decide_eq_true (by rfl)))) | rfl) | exact Cel.rds (by with_reducible (repeat first | apply In.here | apply In.there)) (getML (d := (0 : UInt32)) (by ((try simp only [List.length_set, List.length_map, List.length_append, List.length_replicate, List.size_toArray, List.length_cons, List.length_nil, Array.size_setIfInBounds]); (first | omega | exact of_decide_eq_true (by rfl))))) | exact Cel.rdsB (by with_reducible (repeat first | apply In.here | apply In.there)) (getML (d := (0 : UInt32)) (by ((try simp only [List.length_set, List.length_map, List.length_append, List.length_replicate, List.size_toArray, List.length_cons, List.length_nil, Array.size_setIfInBounds]); (first | omega | exact of_decide_eq_true (by rfl))))) | exact Cel.owns (by with_reducible (repeat first | apply In.here | apply In.there)) (getML (d := (0 : UInt32)) (by ((try simp only [List.length_set, List.length_map, List.length_append, List.length_replicate, List.size_toArray, List.length_cons, List.length_nil, Array.size_setIfInBounds]); (first | omega | exact of_decide_eq_true (by rfl))))) | exact Cel.reads (by assumption) (by with_reducible (repeat first | apply In.here | apply In.there)) (getML (d := (0 : UInt32)) (by ((try simp only [List.length_set, List.length_map, List.length_append, List.length_replicate, List.size_toArray, List.length_cons, List.length_nil, Array.size_setIfInBounds]); (first | omega | exact of_decide_eq_true (by rfl))))) | exact Cel.rds0 (by with_reducible (repeat first | apply In.here | apply In.there)) (getML (d := (0 : UInt32)) (by ((try simp only [List.length_set, List.length_map, List.length_append, List.length_replicate, List.size_toArray, List.length_cons, List.length_nil, Array.size_setIfInBounds]); (first | omega | exact of_decide_eq_true (by rfl))))) | exact Cel.owns0 (by with_reducible (repeat first | apply In.here | apply In.there)) (getML (d := (0 : UInt32)) (by ((try simp only [List.length_set, List.length_map, List.length_append, List.length_replicate, List.size_toArray, List.length_cons, List.length_nil, Array.size_setIfInBounds]); (first | omega | exact of_decide_eq_true (by rfl)))))) : Cel As p v := h
theorem cel64 (h : Cel As p v := by first | exact Cel.at0 Reads.owns (by with_reducible (repeat first | apply In.here | apply In.there)) (by assumption) (by rfl) | exact Cel.at Reads.owns (by with_reducible (repeat first | apply In.here | apply In.there)) (by assumption) (by rfl) | exact Cel.datAt0 (by with_reducible (repeat first | apply In.here | apply In.there)) (by assumption) (by rfl) | exact Cel.datAt (by with_reducible (repeat first | apply In.here | apply In.there)) (by assumption) (by rfl) | exact Cel.datAtS (by with_reducible (repeat first | apply In.here | apply In.there)) (by assumption) (by rfl) | exact Cel.blk (by with_reducible (repeat first | apply In.here | apply In.there)) (by first | exact getM (d := (0 : UInt64)) (by ((try simp only [List.length_set, List.length_map, List.length_append, List.length_replicate, List.size_toArray, List.length_cons, List.length_nil, Array.size_setIfInBounds]); (first | omega | exact of_decide_eq_true (by rfl)))) | rfl) | exact Cel.rblk (by with_reducible (repeat first | apply In.here | apply In.there)) (by first | exact getM (d := (0 : UInt64)) (by ((try simp only [List.length_set, List.length_map, List.length_append, List.length_replicate, List.size_toArray, List.length_cons, List.length_nil, Array.size_setIfInBounds]); (first | omega | exact of_decide_eq_true (by rfl)))) | rfl) | exact Cel.rds (by with_reducible (repeat first | apply In.here | apply In.there)) (getML (d := (0 : UInt64)) (by ((try simp only [List.length_set, List.length_map, List.length_append, List.length_replicate, List.size_toArray, List.length_cons, List.length_nil, Array.size_setIfInBounds]); (first | omega | exact of_decide_eq_true (by rfl))))) | exact Cel.rdsB (by with_reducible (repeat first | apply In.here | apply In.there)) (getML (d := (0 : UInt64)) (by ((try simp only [List.length_set, List.length_map, List.length_append, List.length_replicate, List.size_toArray, List.length_cons, List.length_nil, Array.size_setIfInBounds]); (first | omega | exact of_decide_eq_true (by rfl))))) | exact Cel.owns (by with_reducible (repeat first | apply In.here | apply In.there)) (getML (d := (0 : UInt64)) (by ((try simp only [List.length_set, List.length_map, List.length_append, List.length_replicate, List.size_toArray, List.length_cons, List.length_nil, Array.size_setIfInBounds]); (first | omega | exact of_decide_eq_true (by rfl))))) | exact Cel.reads (by assumption) (by with_reducible (repeat first | apply In.here | apply In.there)) (getML (d := (0 : UInt64)) (by ((try simp only [List.length_set, List.length_map, List.length_append, List.length_replicate, List.size_toArray, List.length_cons, List.length_nil, Array.size_setIfInBounds]); (first | omega | exact of_decide_eq_true (by rfl))))) | exact Cel.rds0 (by with_reducible (repeat first | apply In.here | apply In.there)) (getML (d := (0 : UInt64)) (by ((try simp only [List.length_set, List.length_map, List.length_append, List.length_replicate, List.size_toArray, List.length_cons, List.length_nil, Array.size_setIfInBounds]); (first | omega | exact of_decide_eq_true (by rfl))))) | exact Cel.owns0 (by with_reducible (repeat first | apply In.here | apply In.there)) (getML (d := (0 : UInt64)) (by ((try simp only [List.length_set, List.length_map, List.length_append, List.length_replicate, List.size_toArray, List.length_cons, List.length_nil, Array.size_setIfInBounds]); (first | omega | exact of_decide_eq_true (by rfl)))))) : Cel As p v := h
theorem celN (h : Cel As p v := by first | exact Cel.at0 Reads.owns (by with_reducible (repeat first | apply In.here | apply In.there)) (by assumption) (by rfl) | exact Cel.at Reads.owns (by with_reducible (repeat first | apply In.here | apply In.there)) (by assumption) (by rfl) | exact Cel.datAt0 (by with_reducible (repeat first | apply In.here | apply In.there)) (by assumption) (by rfl) | exact Cel.datAt (by with_reducible (repeat first | apply In.here | apply In.there)) (by assumption) (by rfl) | exact Cel.datAtS (by with_reducible (repeat first | apply In.here | apply In.there)) (by assumption) (by rfl) | exact Cel.blk (by with_reducible (repeat first | apply In.here | apply In.there)) (by first | exact getM (d := (0 : Nat)) (by ((try simp only [List.length_set, List.length_map, List.length_append, List.length_replicate, List.size_toArray, List.length_cons, List.length_nil, Array.size_setIfInBounds]); (first | omega | exact of_decide_eq_true (by rfl)))) | rfl) | exact Cel.rblk (by with_reducible (repeat first | apply In.here | apply In.there)) (by first | exact getM (d := (0 : Nat)) (by ((try simp only [List.length_set, List.length_map, List.length_append, List.length_replicate, List.size_toArray, List.length_cons, List.length_nil, Array.size_setIfInBounds]); (first | omega | exact of_decide_eq_true (by rfl)))) | rfl) | exact Cel.rds (by with_reducible (repeat first | apply In.here | apply In.there)) (getML (d := (0 : Nat)) (by ((try simp only [List.length_set, List.length_map, List.length_append, List.length_replicate, List.size_toArray, List.length_cons, List.length_nil, Array.size_setIfInBounds]); (first | omega | exact of_decide_eq_true (by rfl))))) | exact Cel.rdsB (by with_reducible (repeat first | apply In.here | apply In.there)) (getML (d := (0 : Nat)) (by ((try simp only [List.length_set, List.length_map, List.length_append, List.length_replicate, List.size_toArray, List.length_cons, List.length_nil, Array.size_setIfInBounds]); (first | omega | exact of_decide_eq_true (by rfl))))) | exact Cel.owns (by with_reducible (repeat first | apply In.here | apply In.there)) (getML (d := (0 : Nat)) (by ((try simp only [List.length_set, List.length_map, List.length_append, List.length_replicate, List.size_toArray, List.length_cons, List.length_nil, Array.size_setIfInBounds]); (first | omega | exact of_decide_eq_true (by rfl))))) | exact Cel.reads (by assumption) (by with_reducible (repeat first | apply In.here | apply In.there)) (getML (d := (0 : Nat)) (by ((try simp only [List.length_set, List.length_map, List.length_append, List.length_replicate, List.size_toArray, List.length_cons, List.length_nil, Array.size_setIfInBounds]); (first | omega | exact of_decide_eq_true (by rfl))))) | exact Cel.rds0 (by with_reducible (repeat first | apply In.here | apply In.there)) (getML (d := (0 : Nat)) (by ((try simp only [List.length_set, List.length_map, List.length_append, List.length_replicate, List.size_toArray, List.length_cons, List.length_nil, Array.size_setIfInBounds]); (first | omega | exact of_decide_eq_true (by rfl))))) | exact Cel.owns0 (by with_reducible (repeat first | apply In.here | apply In.there)) (getML (d := (0 : Nat)) (by ((try simp only [List.length_set, List.length_map, List.length_append, List.length_replicate, List.size_toArray, List.length_cons, List.length_nil, Array.size_setIfInBounds]); (first | omega | exact of_decide_eq_true (by rfl)))))) : Cel As p v := h
theorem celD (h : Cel As p v := by first | exact Cel.at0 Reads.owns (by with_reducible (repeat first | apply In.here | apply In.there)) (by assumption) (by rfl) | exact Cel.at Reads.owns (by with_reducible (repeat first | apply In.here | apply In.there)) (by assumption) (by rfl) | exact Cel.datAt0 (by with_reducible (repeat first | apply In.here | apply In.there)) (by assumption) (by rfl) | exact Cel.datAt (by with_reducible (repeat first | apply In.here | apply In.there)) (by assumption) (by rfl) | exact Cel.datAtS (by with_reducible (repeat first | apply In.here | apply In.there)) (by assumption) (by rfl) | exact Cel.blk (by with_reducible (repeat first | apply In.here | apply In.there)) (by first | exact getM (d := default) (by ((try simp only [List.length_set, List.length_map, List.length_append, List.length_replicate, List.size_toArray, List.length_cons, List.length_nil, Array.size_setIfInBounds]); (first | omega | exact of_decide_eq_true (by rfl)))) | rfl) | exact Cel.rblk (by with_reducible (repeat first | apply In.here | apply In.there)) (by first | exact getM (d := default) (by ((try simp only [List.length_set, List.length_map, List.length_append, List.length_replicate, List.size_toArray, List.length_cons, List.length_nil, Array.size_setIfInBounds]); (first | omega | exact of_decide_eq_true (by rfl)))) | rfl) | exact Cel.rds (by with_reducible (repeat first | apply In.here | apply In.there)) (getML (d := default) (by ((try simp only [List.length_set, List.length_map, List.length_append, List.length_replicate, List.size_toArray, List.length_cons, List.length_nil, Array.size_setIfInBounds]); (first | omega | exact of_decide_eq_true (by rfl))))) | exact Cel.rdsB (by with_reducible (repeat first | apply In.here | apply In.there)) (getML (d := default) (by ((try simp only [List.length_set, List.length_map, List.length_append, List.length_replicate, List.size_toArray, List.length_cons, List.length_nil, Array.size_setIfInBounds]); (first | omega | exact of_decide_eq_true (by rfl))))) | exact Cel.owns (by with_reducible (repeat first | apply In.here | apply In.there)) (getML (d := default) (by ((try simp only [List.length_set, List.length_map, List.length_append, List.length_replicate, List.size_toArray, List.length_cons, List.length_nil, Array.size_setIfInBounds]); (first | omega | exact of_decide_eq_true (by rfl))))) | exact Cel.reads (by assumption) (by with_reducible (repeat first | apply In.here | apply In.there)) (getML (d := default) (by ((try simp only [List.length_set, List.length_map, List.length_append, List.length_replicate, List.size_toArray, List.length_cons, List.length_nil, Array.size_setIfInBounds]); (first | omega | exact of_decide_eq_true (by rfl))))) | exact Cel.rds0 (by with_reducible (repeat first | apply In.here | apply In.there)) (getML (d := default) (by ((try simp only [List.length_set, List.length_map, List.length_append, List.length_replicate, List.size_toArray, List.length_cons, List.length_nil, Array.size_setIfInBounds]); (first | omega | exact of_decide_eq_true (by rfl))))) | exact Cel.owns0 (by with_reducible (repeat first | apply In.here | apply In.there)) (getML (d := default) (by ((try simp only [List.length_set, List.length_map, List.length_append, List.length_replicate, List.size_toArray, List.length_cons, List.length_nil, Array.size_setIfInBounds]); (first | omega | exact of_decide_eq_true (by rfl)))))) : Cel As p v := h
theorem ceo8 (h : Cel As p v := by first | exact Cel.blk (by with_reducible (repeat first | apply In.here | apply In.there)) (by first | exact getM (d := (0 : UInt8)) (by ((try simp only [List.length_set, List.length_map, List.length_append, List.length_replicate, List.size_toArray, List.length_cons, List.length_nil, Array.size_setIfInBounds]); (first | omega | exact of_decide_eq_true (by rfl)))) | rfl) | exact Cel.rblk (by with_reducible (repeat first | apply In.here | apply In.there)) (by first | exact getM (d := (0 : UInt8)) (by ((try simp only [List.length_set, List.length_map, List.length_append, List.length_replicate, List.size_toArray, List.length_cons, List.length_nil, Array.size_setIfInBounds]); (first | omega | exact of_decide_eq_true (by rfl)))) | rfl) | exact Cel.rds (by with_reducible (repeat first | apply In.here | apply In.there)) (getML (d := (0 : UInt8)) (by ((try simp only [List.length_set, List.length_map, List.length_append, List.length_replicate, List.size_toArray, List.length_cons, List.length_nil, Array.size_setIfInBounds]); (first | omega | exact of_decide_eq_true (by rfl))))) | exact Cel.rdsB (by with_reducible (repeat first | apply In.here | apply In.there)) (getML (d := (0 : UInt8)) (by ((try simp only [List.length_set, List.length_map, List.length_append, List.length_replicate, List.size_toArray, List.length_cons, List.length_nil, Array.size_setIfInBounds]); (first | omega | exact of_decide_eq_true (by rfl))))) | exact Cel.owns (by with_reducible (repeat first | apply In.here | apply In.there)) (getML (d := (0 : UInt8)) (by ((try simp only [List.length_set, List.length_map, List.length_append, List.length_replicate, List.size_toArray, List.length_cons, List.length_nil, Array.size_setIfInBounds]); (first | omega | exact of_decide_eq_true (by rfl))))) | exact Cel.reads (by assumption) (by with_reducible (repeat first | apply In.here | apply In.there)) (getML (d := (0 : UInt8)) (by ((try simp only [List.length_set, List.length_map, List.length_append, List.length_replicate, List.size_toArray, List.length_cons, List.length_nil, Array.size_setIfInBounds]); (first | omega | exact of_decide_eq_true (by rfl)))))) : Cel As p v := h
theorem ceo16 (h : Cel As p v := by first | exact Cel.blk (by with_reducible (repeat first | apply In.here | apply In.there)) (by first | exact getM (d := (0 : UInt16)) (by ((try simp only [List.length_set, List.length_map, List.length_append, List.length_replicate, List.size_toArray, List.length_cons, List.length_nil, Array.size_setIfInBounds]); (first | omega | exact of_decide_eq_true (by rfl)))) | rfl) | exact Cel.rblk (by with_reducible (repeat first | apply In.here | apply In.there)) (by first | exact getM (d := (0 : UInt16)) (by ((try simp only [List.length_set, List.length_map, List.length_append, List.length_replicate, List.size_toArray, List.length_cons, List.length_nil, Array.size_setIfInBounds]); (first | omega | exact of_decide_eq_true (by rfl)))) | rfl) | exact Cel.rds (by with_reducible (repeat first | apply In.here | apply In.there)) (getML (d := (0 : UInt16)) (by ((try simp only [List.length_set, List.length_map, List.length_append, List.length_replicate, List.size_toArray, List.length_cons, List.length_nil, Array.size_setIfInBounds]); (first | omega | exact of_decide_eq_true (by rfl))))) | exact Cel.rdsB (by with_reducible (repeat first | apply In.here | apply In.there)) (getML (d := (0 : UInt16)) (by ((try simp only [List.length_set, List.length_map, List.length_append, List.length_replicate, List.size_toArray, List.length_cons, List.length_nil, Array.size_setIfInBounds]); (first | omega | exact of_decide_eq_true (by rfl))))) | exact Cel.owns (by with_reducible (repeat first | apply In.here | apply In.there)) (getML (d := (0 : UInt16)) (by ((try simp only [List.length_set, List.length_map, List.length_append, List.length_replicate, List.size_toArray, List.length_cons, List.length_nil, Array.size_setIfInBounds]); (first | omega | exact of_decide_eq_true (by rfl))))) | exact Cel.reads (by assumption) (by with_reducible (repeat first | apply In.here | apply In.there)) (getML (d := (0 : UInt16)) (by ((try simp only [List.length_set, List.length_map, List.length_append, List.length_replicate, List.size_toArray, List.length_cons, List.length_nil, Array.size_setIfInBounds]); (first | omega | exact of_decide_eq_true (by rfl)))))) : Cel As p v := h
theorem ceo32 (h : Cel As p v := by first | exact Cel.blk (by with_reducible (repeat first | apply In.here | apply In.there)) (by first | exact getM (d := (0 : UInt32)) (by ((try simp only [List.length_set, List.length_map, List.length_append, List.length_replicate, List.size_toArray, List.length_cons, List.length_nil, Array.size_setIfInBounds]); (first | omega | exact of_decide_eq_true (by rfl)))) | rfl) | exact Cel.rblk (by with_reducible (repeat first | apply In.here | apply In.there)) (by first | exact getM (d := (0 : UInt32)) (by ((try simp only [List.length_set, List.length_map, List.length_append, List.length_replicate, List.size_toArray, List.length_cons, List.length_nil, Array.size_setIfInBounds]); (first | omega | exact of_decide_eq_true (by rfl)))) | rfl) | exact Cel.rds (by with_reducible (repeat first | apply In.here | apply In.there)) (getML (d := (0 : UInt32)) (by ((try simp only [List.length_set, List.length_map, List.length_append, List.length_replicate, List.size_toArray, List.length_cons, List.length_nil, Array.size_setIfInBounds]); (first | omega | exact of_decide_eq_true (by rfl))))) | exact Cel.rdsB (by with_reducible (repeat first | apply In.here | apply In.there)) (getML (d := (0 : UInt32)) (by ((try simp only [List.length_set, List.length_map, List.length_append, List.length_replicate, List.size_toArray, List.length_cons, List.length_nil, Array.size_setIfInBounds]); (first | omega | exact of_decide_eq_true (by rfl))))) | exact Cel.owns (by with_reducible (repeat first | apply In.here | apply In.there)) (getML (d := (0 : UInt32)) (by ((try simp only [List.length_set, List.length_map, List.length_append, List.length_replicate, List.size_toArray, List.length_cons, List.length_nil, Array.size_setIfInBounds]); (first | omega | exact of_decide_eq_true (by rfl))))) | exact Cel.reads (by assumption) (by with_reducible (repeat first | apply In.here | apply In.there)) (getML (d := (0 : UInt32)) (by ((try simp only [List.length_set, List.length_map, List.length_append, List.length_replicate, List.size_toArray, List.length_cons, List.length_nil, Array.size_setIfInBounds]); (first | omega | exact of_decide_eq_true (by rfl)))))) : Cel As p v := h
theorem ceo64 (h : Cel As p v := by first | exact Cel.blk (by with_reducible (repeat first | apply In.here | apply In.there)) (by first | exact getM (d := (0 : UInt64)) (by ((try simp only [List.length_set, List.length_map, List.length_append, List.length_replicate, List.size_toArray, List.length_cons, List.length_nil, Array.size_setIfInBounds]); (first | omega | exact of_decide_eq_true (by rfl)))) | rfl) | exact Cel.rblk (by with_reducible (repeat first | apply In.here | apply In.there)) (by first | exact getM (d := (0 : UInt64)) (by ((try simp only [List.length_set, List.length_map, List.length_append, List.length_replicate, List.size_toArray, List.length_cons, List.length_nil, Array.size_setIfInBounds]); (first | omega | exact of_decide_eq_true (by rfl)))) | rfl) | exact Cel.rds (by with_reducible (repeat first | apply In.here | apply In.there)) (getML (d := (0 : UInt64)) (by ((try simp only [List.length_set, List.length_map, List.length_append, List.length_replicate, List.size_toArray, List.length_cons, List.length_nil, Array.size_setIfInBounds]); (first | omega | exact of_decide_eq_true (by rfl))))) | exact Cel.rdsB (by with_reducible (repeat first | apply In.here | apply In.there)) (getML (d := (0 : UInt64)) (by ((try simp only [List.length_set, List.length_map, List.length_append, List.length_replicate, List.size_toArray, List.length_cons, List.length_nil, Array.size_setIfInBounds]); (first | omega | exact of_decide_eq_true (by rfl))))) | exact Cel.owns (by with_reducible (repeat first | apply In.here | apply In.there)) (getML (d := (0 : UInt64)) (by ((try simp only [List.length_set, List.length_map, List.length_append, List.length_replicate, List.size_toArray, List.length_cons, List.length_nil, Array.size_setIfInBounds]); (first | omega | exact of_decide_eq_true (by rfl))))) | exact Cel.reads (by assumption) (by with_reducible (repeat first | apply In.here | apply In.there)) (getML (d := (0 : UInt64)) (by ((try simp only [List.length_set, List.length_map, List.length_append, List.length_replicate, List.size_toArray, List.length_cons, List.length_nil, Array.size_setIfInBounds]); (first | omega | exact of_decide_eq_true (by rfl)))))) : Cel As p v := h
theorem ceoN (h : Cel As p v := by first | exact Cel.blk (by with_reducible (repeat first | apply In.here | apply In.there)) (by first | exact getM (d := (0 : Nat)) (by ((try simp only [List.length_set, List.length_map, List.length_append, List.length_replicate, List.size_toArray, List.length_cons, List.length_nil, Array.size_setIfInBounds]); (first | omega | exact of_decide_eq_true (by rfl)))) | rfl) | exact Cel.rblk (by with_reducible (repeat first | apply In.here | apply In.there)) (by first | exact getM (d := (0 : Nat)) (by ((try simp only [List.length_set, List.length_map, List.length_append, List.length_replicate, List.size_toArray, List.length_cons, List.length_nil, Array.size_setIfInBounds]); (first | omega | exact of_decide_eq_true (by rfl)))) | rfl) | exact Cel.rds (by with_reducible (repeat first | apply In.here | apply In.there)) (getML (d := (0 : Nat)) (by ((try simp only [List.length_set, List.length_map, List.length_append, List.length_replicate, List.size_toArray, List.length_cons, List.length_nil, Array.size_setIfInBounds]); (first | omega | exact of_decide_eq_true (by rfl))))) | exact Cel.rdsB (by with_reducible (repeat first | apply In.here | apply In.there)) (getML (d := (0 : Nat)) (by ((try simp only [List.length_set, List.length_map, List.length_append, List.length_replicate, List.size_toArray, List.length_cons, List.length_nil, Array.size_setIfInBounds]); (first | omega | exact of_decide_eq_true (by rfl))))) | exact Cel.owns (by with_reducible (repeat first | apply In.here | apply In.there)) (getML (d := (0 : Nat)) (by ((try simp only [List.length_set, List.length_map, List.length_append, List.length_replicate, List.size_toArray, List.length_cons, List.length_nil, Array.size_setIfInBounds]); (first | omega | exact of_decide_eq_true (by rfl))))) | exact Cel.reads (by assumption) (by with_reducible (repeat first | apply In.here | apply In.there)) (getML (d := (0 : Nat)) (by ((try simp only [List.length_set, List.length_map, List.length_append, List.length_replicate, List.size_toArray, List.length_cons, List.length_nil, Array.size_setIfInBounds]); (first | omega | exact of_decide_eq_true (by rfl)))))) : Cel As p v := h
theorem ceoD (h : Cel As p v := by first | exact Cel.blk (by with_reducible (repeat first | apply In.here | apply In.there)) (by first | exact getM (d := default) (by ((try simp only [List.length_set, List.length_map, List.length_append, List.length_replicate, List.size_toArray, List.length_cons, List.length_nil, Array.size_setIfInBounds]); (first | omega | exact of_decide_eq_true (by rfl)))) | rfl) | exact Cel.rblk (by with_reducible (repeat first | apply In.here | apply In.there)) (by first | exact getM (d := default) (by ((try simp only [List.length_set, List.length_map, List.length_append, List.length_replicate, List.size_toArray, List.length_cons, List.length_nil, Array.size_setIfInBounds]); (first | omega | exact of_decide_eq_true (by rfl)))) | rfl) | exact Cel.rds (by with_reducible (repeat first | apply In.here | apply In.there)) (getML (d := default) (by ((try simp only [List.length_set, List.length_map, List.length_append, List.length_replicate, List.size_toArray, List.length_cons, List.length_nil, Array.size_setIfInBounds]); (first | omega | exact of_decide_eq_true (by rfl))))) | exact Cel.rdsB (by with_reducible (repeat first | apply In.here | apply In.there)) (getML (d := default) (by ((try simp only [List.length_set, List.length_map, List.length_append, List.length_replicate, List.size_toArray, List.length_cons, List.length_nil, Array.size_setIfInBounds]); (first | omega | exact of_decide_eq_true (by rfl))))) | exact Cel.owns (by with_reducible (repeat first | apply In.here | apply In.there)) (getML (d := default) (by ((try simp only [List.length_set, List.length_map, List.length_append, List.length_replicate, List.size_toArray, List.length_cons, List.length_nil, Array.size_setIfInBounds]); (first | omega | exact of_decide_eq_true (by rfl))))) | exact Cel.reads (by assumption) (by with_reducible (repeat first | apply In.here | apply In.there)) (getML (d := default) (by ((try simp only [List.length_set, List.length_map, List.length_append, List.length_replicate, List.size_toArray, List.length_cons, List.length_nil, Array.size_setIfInBounds]); (first | omega | exact of_decide_eq_true (by rfl)))))) : Cel As p v := h
end
/-! ### steps under short names -/
section
variable {κ : Ctx} {P : Program} {N : Nat} {F : FE} {L L' As : List SA} {Q : Exit → Act → World → Prop} {ops : Array Oper} {o : Oper} {fuel : Nat} {listed : Array Bool} {φ : Prop}
theorem isf (h : φ := by first | rfl | (simp only [decide_eq_true_eq, decide_eq_false_iff_not, Bool.not_eq_true', Bool.not_eq_false', Bool.not_eq_eq_eq_not, Bool.not_true, Bool.not_false, Nat.not_lt, Nat.not_le]; omega) | (simp [*]; done) | (simp; omega)) : φ := h
theorem grw (h : φ := by (repeat first | apply Grow.refl | apply Grow.step | apply Grow.app)) : φ := h
theorem hld (h : φ := by repeat first | exact holds_nil | refine holds_cons inn ?_) : φ := h
theorem TA.tk (i : Nat) {last d : Nat} {v : Value} (hi : ops[i]? = some o) (hd : o.dst = some d) (h : Yld P N o F As v) (k : TA κ P N ops last As fuel (listed.setIfInBounds i true) ((d, some v) :: F) L Q)
    (hN : Nat.blt d N = true := by rfl) (hg : wantF ops F o = some true := by rfl) (hs : Region.noSelect ops = true := by kernel_rfl) (hf : Region.free .any ops listed i = true := by kernel_rfl) (hr : (Region.ready .any ops listed).contains i = true := by kernel_rfl) (hl : Nat.beq i last = false := by rfl) (hw : waits ops last i = true := by kernel_rfl) (hll : listed.getD last false = false := by kernel_rfl)
    (hQ : ∀ c a w, Q (.panic c) (a.put o.dst v) w → Q (.panic c) a w := by exact fun _ _ _ h => h) : TA κ P N ops last As (fuel + 1) listed F L Q := TA.take i hi hd hN hg hs hf hr hl hw hll hQ h k
theorem TA.tp (i : Nat) {last d : Nat} {v : Value} (hi : ops[i]? = some o) (hd : o.dst = some d) (h : Yld P N o F [] v) (k : TA κ P N ops last As fuel (listed.setIfInBounds i true) ((d, some v) :: F) L Q)
    (hN : Nat.blt d N = true := by rfl) (hg : wantF ops F o = some true := by rfl) (hs : Region.noSelect ops = true := by kernel_rfl) (hf : Region.free .any ops listed i = true := by kernel_rfl) (hr : (Region.ready .any ops listed).contains i = true := by kernel_rfl) (hl : Nat.beq i last = false := by rfl)
    (hQ : ∀ c a w, Q (.panic c) (a.put o.dst v) w → Q (.panic c) a w := by exact fun _ _ _ h => h) : TA κ P N ops last As (fuel + 1) listed F L Q := TA.takeP i hi hd hN hg hs hf hr hl hQ h k
theorem TA.tn (i : Nat) {last d : Nat} (hi : ops[i]? = some o) (hd : o.dst = some d) (k : TA κ P N ops last As fuel (listed.setIfInBounds i true) ((d, some undef) :: F) L Q)
    (hN : Nat.blt d N = true := by rfl) (hg : wantF ops F o = some false := by rfl) (hs : Region.noSelect ops = true := by kernel_rfl) (hf : Region.free .any ops listed i = true := by kernel_rfl) (hr : (Region.ready .any ops listed).contains i = true := by kernel_rfl) (hl : Nat.beq i last = false := by rfl)
    (hQ : ∀ c a w, Q (.panic c) (a.put o.dst undef) w → Q (.panic c) a w := by exact fun _ _ _ h => h) : TA κ P N ops last As (fuel + 1) listed F L Q := TA.not i hi hd hN hg hs hf hr hl hQ k
theorem X.cl {f : FuncId} {fn : Func} {args : List Operand} {at' : Array TypeId} {vs : List Value} {R : Value → List SA → Prop} (ho : o.op = .call { callee := .value (.func f), args := args.toArray, argTypes := at' })
    (hf : P.funcs[f]? = some fn) (hv : evA F args = some vs) (hn : (fn.name == "runtime.NumGoroutine") = false := by kernel_rfl) (hb : fn.body.isNone = false := by rfl) (hE : Ent L L' := by repeat first | (with_reducible apply Ent.refl) | (apply Ent.cons; case h => first | (with_reducible (repeat first | apply Pull.here | apply Pull.there); done) | (repeat first | apply Pull.here | apply Pull.there))) (h : Fn P f vs L' R) : Eff P N o F L R := X.call ho hf hn hb hv (Fn.preE hE h)
end
/-! ### the commonest steps, shorter still -/
section
variable {κ : Ctx} {P : Program} {N : Nat} {F : FE} {L : List SA} {Q : Exit → Act → World → Prop} {ops : Array Oper} {o : Oper} {rest : List Oper} {x : Operand} {d : Nat} {v : Value} {p : Addr}
theorem TL.mv (k : TL κ P N ops rest ((d, some v) :: F) L Q) (hg : o.guard = none := by exact rfl) (hd : o.dst = some d := by exact rfl) (hN : Nat.blt d N = true := by exact rfl) (ho : o.op = .move x := by exact rfl) (hx : evO F x = some v := by exact rfl) : TL κ P N ops (o :: rest) F L Q := TL.val hg hd hN (Y.move ho hx) k
theorem TL.sg (k : TL κ P N ops rest ((d, some v) :: F) L Q) (hg : o.guard = none := by exact rfl) (hd : o.dst = some d := by exact rfl) (hN : Nat.blt d N = true := by exact rfl) (ho : o.op = .assign x := by exact rfl) (hx : evO F x = some v := by exact rfl) : TL κ P N ops (o :: rest) F L Q := TL.val hg hd hN (Y.assign ho hx) k
theorem TL.nc (k : TL κ P N ops rest ((d, some (.pointer (some p))) :: F) L Q) (hg : o.guard = none := by exact rfl) (hd : o.dst = some d := by exact rfl) (hN : Nat.blt d N = true := by exact rfl) (ho : o.op = .nilCheck x := by exact rfl) (hx : evO F x = some (.pointer (some p)) := by exact rfl) : TL κ P N ops (o :: rest) F L Q := TL.val hg hd hN (Y.nilCheck ho hx) k
theorem TL.mg (k : TL κ P N ops rest ((d, some v) :: F) L Q) (hg : wantF ops F o = some true := by exact rfl) (hd : o.dst = some d := by exact rfl) (hN : Nat.blt d N = true := by exact rfl) (ho : o.op = .move x := by exact rfl) (hx : evO F x = some v := by exact rfl) : TL κ P N ops (o :: rest) F L Q := TL.valG hg hd hN (Y.move ho hx) k
end
theorem zA {p : Prop} [Decidable p] : (decide p = true) = p := decide_eq_true_eq
theorem zB {p : Prop} [Decidable p] : decide p = false ↔ ¬ p := decide_eq_false_iff_not
theorem zC {b : Bool} : ((!b) = true) = (b = false) := Bool.not_eq_true' b
theorem zD {b : Bool} : ((!b) = false) = (b = true) := Bool.not_eq_false' b
theorem zE {a b : Bool} : ((a && b) = true) = (a = true ∧ b = true) := Bool.and_eq_true a b
theorem zF {a b : Bool} : ((a || b) = true) = (a = true ∨ b = true) := Bool.or_eq_true a b
theorem zG {n m : Nat} : ¬ n < m ↔ m ≤ n := Nat.not_lt
theorem zH {n m : Nat} : ¬ n ≤ m ↔ m < n := Nat.not_le
theorem zI {α : Type} [BEq α] [LawfulBEq α] {a b : α} : (a == b) = true ↔ a = b := beq_iff_eq
theorem zJ {α : Type} [BEq α] [LawfulBEq α] {a b : α} : (a != b) = true ↔ a ≠ b := bne_iff_ne
end Go.Proofs.Ythamkpjiecigjaa

/- wire.Ring over rostrum/twcc.arrival (structs of 2 cells), with slices.Clone and slices.Delete. -/
namespace Go.Proofs.Ythamkpjiecigjaa
set_option linter.unusedVariables false
set_option linter.unusedSimpArgs false
open Go.RowKit
namespace rga
namespace FxRingA
set_option maxRecDepth 100000
theorem ag67 : Program.aggN Try.prog 67 = some 2 := by kernel_rfl
theorem el95 : Elt Try.prog 95 67 2 16 (.agg #[.int .u16 0, .int .i64 0]) := ⟨Try.underlying95, by kernel_rfl, rfl, by decide, by simp [Value.cells, Value.oneCell']⟩
theorem fo97_0 : Program.fieldOff Try.prog 97 0 = some 0 := by kernel_rfl
theorem fo97_1 : Program.fieldOff Try.prog 97 1 = some 1 := by kernel_rfl
theorem pl97 : Program.places Try.prog 97 = some [(0, 1), (1, 1)] := by kernel_rfl
theorem sc3 : Program.isSc Try.prog 3 = true := by kernel_rfl
theorem sc64 : Program.isSc Try.prog 64 = true := by kernel_rfl
theorem sc95 : Program.isSc Try.prog 95 = true := by kernel_rfl
theorem sl95 : Program.slI Try.prog 95 = some 2 := by kernel_rfl
theorem sz67 : (Try.prog.info? 67).map (·.size) = some 2 := by kernel_rfl
theorem sz95 : (Try.prog.info? 95).map (·.size) = some 1 := by kernel_rfl
theorem zc67 : Program.zeroC Try.prog 67 = some #[.int .u16 0, .int .i64 0] := by kernel_rfl
theorem zc97 : Program.zeroC Try.prog 97 = some #[.int .i64 0, .slice none 0 0] := by kernel_rfl
theorem zs67 : ((Try.prog.info? 67).bind fun i => i.zero.map fun z => (i.size, z.cells.size)) = some (2, 2) := by kernel_rfl
end FxRingA
open FxRingA
section
variable {α : Type} [Dat α]
--REG slices.Clone[[]rostrum/twcc.arrival,rostrum/twcc.arrival] : _ _ ⟨a{d}, c{d}, rfl, rfl⟩ => (rga.Clone_fn _ _ _ _ _ (by assumption) (by assumption) (by omega) _)
theorem Clone_fn (A : SA) (a : Option Addr) (n cap : Nat) (cs : List Value) (hA : Reads A 2 (.slice a n cap) n cs) (hn : n * 16 ≤ 140737488355328) (hm : n ≤ 9223372036854775807) (L : List SA) :
    Fn Try.prog 33 [.slice a n cap] (A :: L) (fun v L' => ∃ a' c', v = .slice a' n c' ∧ L' = SA.owns 67 2 (.slice a' n c') n cs :: A :: L) := by
  refine Fn.of (N := 8) Try.func33 rfl rfl ?_
  intro Xh
  refine TC.know (reads_cap hA inn) ?_
  rintro ⟨-, -, hlen, hnone⟩
  refine TC.seq ?_
  refine TC.region ?_
  refine TL.val rfl rfl rfl (Y.assign rfl rfl) ?_
  refine TL.nil ?_
  refine TQ.next ?_
  refine TC.seq ?_
  refine TC.seq ?_
  refine TC.region ?_
  refine TL.val rfl rfl rfl (Y.move rfl rfl) ?_
  refine TL.val rfl rfl rfl (Y.eqNilS rfl Try.underlying95 rfl rfl) ?_
  refine TL.nil ?_
  refine TQ.next ?_
  refine TC.cond rfl (fun c0 => ?_) (fun c0 => ?_)
  · try simp only [decide_eq_true_eq, decide_eq_false_iff_not, Bool.not_eq_true', Bool.not_eq_false', Bool.and_eq_true, Bool.or_eq_true, Nat.not_lt, Nat.not_le, beq_iff_eq, bne_iff_ne] at c0
    have ha : a = none := by cases a <;> simp_all
    have h0 := hnone ha
    subst h0
    rw [Nat.zero_mul] at hlen
    obtain rfl : cs = [] := List.eq_nil_of_length_eq_zero hlen
    refine TC.to (Ent.nilOwn 67 2) ?_
    refine TC.seq ?_
    refine TC.region ?_
    refine TL.val rfl rfl rfl (Y.assign rfl rfl) ?_
    refine TL.nil ?_
    refine TQ.next ?_
    refine TC.ret ?_
    refine TQ.then_ret ?_
    refine TQ.retE (res1 rfl rfl) (⟨_, _, rfl, rfl⟩) ?_
    exact ett
  · try simp only [decide_eq_true_eq, decide_eq_false_iff_not, Bool.not_eq_true', Bool.not_eq_false', Bool.and_eq_true, Bool.or_eq_true, Nat.not_lt, Nat.not_le, beq_iff_eq, bne_iff_ne] at c0
    refine TC.skip ?_
    refine TQ.next ?_
    refine TC.seq ?_
    refine TC.region ?_
    refine TL.eff rfl rfl rfl (X.litA (bytes := 0) (z := .nilFunc) (cells := []) rfl Try.underlying95 zs67 rfl rfl rfl (by decide) (by decide) (by decide) rfl rfl rfl) ?_
    rintro _ _ ⟨g5, rfl, rfl⟩
    refine TL.val rfl rfl rfl (Y.move rfl rfl) ?_
    refine TL.eff rfl rfl rfl (X.appendS rfl el95 rfl pul rfl (Src.reads hA Try.underlying95 inn) (by simp only [maxLen]; omega) (by omega)) ?_
    rintro _ _ ⟨a7, c7, rfl, rfl⟩
    simp only [Nat.zero_add, List.nil_append]
    refine TL.val rfl rfl rfl (Y.assign rfl rfl) ?_
    refine TL.nil ?_
    refine TQ.next ?_
    refine TC.ret ?_
    refine TQ.retE (res1 rfl rfl) (⟨_, _, rfl, rfl⟩) ?_
    exact ett
theorem Delete_fn (g off n cap i j : Nat) (cs : List Value) (hij : i < j) (hj : j ≤ n) (L : List SA) :
    Fn Try.prog 31 [.slice (some ⟨g, off, none⟩) n cap, vN i, vN j] (SA.owns 67 2 (.slice (some ⟨g, off, none⟩) n cap) n cs :: L)
      (fun v L' => v = .slice (some ⟨g, off, none⟩) (i + (n - j)) cap ∧ L' = SA.owns 67 2 (.slice (some ⟨g, off, none⟩) (i + (n - j)) cap) (i + (n - j)) (cs.take (i * 2) ++ cs.drop (j * 2)) :: L) := by
  refine Fn.of (N := 33) Try.func31 rfl rfl ?_
  intro Xh
  refine TC.know (owns_cap (a := some ⟨g, off, none⟩) (n := n) (cap := cap) inn) ?_
  rintro ⟨hc1, hc2, hlen⟩
  simp only [maxLen] at hc2
  refine TC.seq ?_
  refine TC.region ?_
  refine TL.val rfl rfl rfl (Y.assign rfl rfl) ?_
  refine TL.nil ?_
  refine TQ.next ?_
  refine TC.seq ?_
  refine TC.region ?_
  refine TL.val rfl rfl rfl (Y.move rfl rfl) ?_
  refine TL.val rfl rfl rfl (Y.move rfl rfl) ?_
  refine TL.val rfl rfl rfl (Y.move rfl rfl) ?_
  refine TL.val rfl rfl rfl (Y.move rfl rfl) ?_
  refine TL.val rfl rfl rfl (Y.len rfl Try.underlying95 rfl) ?_
  refine TL.val rfl rfl rfl (Y.slice3 rfl Try.underlying95 sz67 rfl rfl rfl rfl (by omega) (by omega) (by omega)) ?_
  refine TL.nil ?_
  refine TQ.next ?_
  refine TC.seq ?_
  refine TC.seq ?_
  refine TC.region ?_
  refine TL.val rfl rfl rfl (Y.move rfl rfl) ?_
  refine TL.val rfl rfl rfl (Y.move rfl rfl) ?_
  refine TL.val rfl rfl rfl (Y.bin rfl rfl rfl (br_eqN)) ?_
  refine TL.is false isf ?_
  refine TL.nil ?_
  refine TQ.next ?_
  refine TC.cond_f rfl ?_
  refine TC.skip ?_
  refine TQ.next ?_
  refine TC.seq ?_
  refine TC.region ?_
  refine TL.val rfl rfl rfl (Y.move rfl rfl) ?_
  refine TL.val rfl rfl rfl (Y.len rfl Try.underlying95 rfl) ?_
  refine TL.val rfl rfl rfl (Y.assign rfl rfl) ?_
  refine TL.nil ?_
  refine TQ.next ?_
  refine TC.seq ?_
  refine TC.draws 6 _ (by kernel_rfl) (by kernel_rfl) (fun _ h => h) ?_
  refine TA.tp 0 rfl rfl (Y.move rfl rfl) ?_
  refine TA.tp 1 rfl rfl (Y.move rfl rfl) ?_
  refine TA.tk 2 rfl rfl (Y.sliceHi2 rfl Try.underlying95 sz67 rfl rfl (by omega)) ?_
  refine TA.tp 3 rfl rfl (Y.move rfl rfl) ?_
  refine TA.tp 4 rfl rfl (Y.move rfl rfl) ?_
  refine TA.tk 5 rfl rfl (Y.sliceLo rfl Try.underlying95 sz67 rfl rfl (by omega)) ?_
  refine TA.one 6 (by kernel_rfl) rfl rfl rfl rfl (X.appendCut (i := i) (j := j) (n := n) rfl el95 Try.underlying95 rfl pul rfl (by omega) (by omega) (by omega)) ?_
  rintro _ _ ⟨rfl, rfl⟩
  refine ⟨(Or.inl (by kernel_rfl)), ?_⟩
  refine TA.tp 7 rfl rfl (Y.assign rfl rfl) ?_
  refine TA.done (by kernel_rfl) ?_
  refine TQ.next ?_
  refine TC.seq ?_
  refine TC.region ?_
  refine TL.val rfl rfl rfl (Y.move rfl rfl) ?_
  refine TL.val rfl rfl rfl (Y.move rfl rfl) ?_
  refine TL.val rfl rfl rfl (Y.len rfl Try.underlying95 rfl) ?_
  refine TL.val rfl rfl rfl (Y.move rfl rfl) ?_
  refine TL.val rfl rfl rfl (Y.sliceLH rfl Try.underlying95 sz67 rfl rfl rfl (by omega) (by omega)) ?_
  refine TL.eff0 rfl rfl (X.clearTail rfl el95 rfl pul (by omega) (by omega) (by omega)) ?_
  rintro _ _ rfl
  refine TL.nil ?_
  refine TQ.next ?_
  refine TC.seq ?_
  refine TC.region ?_
  refine TL.val rfl rfl rfl (Y.move rfl rfl) ?_
  refine TL.val rfl rfl rfl (Y.assign rfl rfl) ?_
  refine TL.nil ?_
  refine TQ.next ?_
  refine TC.ret ?_
  refine TQ.retE (res1 rfl rfl) (⟨rfl, rfl⟩) ?_
  exact ett
/-- a ring and what it holds -/
def RG (b most : Nat) (l : List α) : SA := SA.ex fun x : Option Addr × Nat => SA.star (SA.blk b #[vN most, .slice x.1 l.length x.2] 97) (SA.star (SA.owns 67 2 (.slice x.1 l.length x.2) l.length (Dat.cs l)) (SA.rdss (l.flatMap Dat.g)))
theorem put {b most n cap : Nat} {a : Option Addr} {l : List α} {cb : Array Value} {cs : List Value} {gs : List G} {L L1 L2 L3 : List SA} (h1 : Pull (SA.blk b cb 97) L L1) (hb : cb = #[vN most, .slice a n cap]) (h2 : Pull (SA.owns 67 2 (.slice a n cap) n cs) L1 L2)
    (h3 : Pull (SA.rdss gs) L2 L3) (hn : l.length = n) (hc : Dat.cs l = cs) (hg : l.flatMap Dat.g = gs) : Ent L (RG b most l :: L3) := by
  subst hb; subst hn; subst hc; subst hg
  exact h1.ent.trans ((h2.ent.under _).trans (((h3.ent.under _).under _).trans ((Ent.unstarE.under _).trans (Ent.unstarE.trans (Ent.exE (f := fun x : Option Addr × Nat => SA.star (SA.blk b #[vN most, .slice x.1 l.length x.2] 97) (SA.star (SA.owns 67 2 (.slice x.1 l.length x.2) l.length (Dat.cs l)) (SA.rdss (l.flatMap Dat.g)))) (a, cap))))))
theorem openC {κ : Ctx} {P : Program} {N : Nat} {F : FE} {code : Code} {Q : Exit → Act → World → Prop} {b most : Nat} {l : List α} {L L0 : List SA} (hp : Pull (RG b most l) L L0)
    (k : ∀ (a : Option Addr) (cap : Nat), TC κ P N code F (SA.blk b #[vN most, .slice a l.length cap] 97 :: SA.owns 67 2 (.slice a l.length cap) l.length (Dat.cs l) :: SA.rdss (l.flatMap Dat.g) :: L0) Q) : TC κ P N code F L Q :=
  TC.open hp fun x => TC.split Pull.here (TC.to (Ent.under _ Ent.starE) (k x.1 x.2))
theorem openL {κ : Ctx} {P : Program} {N : Nat} {F : FE} {ops : Array Oper} {rest : List Oper} {Q : Exit → Act → World → Prop} {b most : Nat} {l : List α} {L L0 : List SA} (hp : Pull (RG b most l) L L0)
    (k : ∀ (a : Option Addr) (cap : Nat), TL κ P N ops rest F (SA.blk b #[vN most, .slice a l.length cap] 97 :: SA.owns 67 2 (.slice a l.length cap) l.length (Dat.cs l) :: SA.rdss (l.flatMap Dat.g) :: L0) Q) : TL κ P N ops rest F L Q :=
  TL.open hp fun x => TL.split Pull.here (TL.to (Ent.under _ Ent.starE) (k x.1 x.2))
--REG rostrum/wire.NewRing[rostrum/twcc.arrival] : _ _ ⟨rg{d}, rfl, rfl⟩ => (rga.New_fn (α := (UInt16 × Nat)) {0} _)
theorem New_fn (most : Nat) (L : List SA) : Fn Try.prog 19 [vN most] L (fun v L' => ∃ b, v = pt b 0 ∧ L' = RG b (max most 1) ([] : List α) :: L) := by
  refine Fn.of (N := 7) Try.func19 rfl rfl ?_
  intro Xh
  refine TC.seq ?_
  refine TC.region ?_
  refine TL.val rfl rfl rfl (Y.assign rfl rfl) ?_
  refine TL.nil ?_
  refine TQ.next ?_
  refine TC.seq ?_
  refine TC.region ?_
  refine TL.val rfl rfl rfl (Y.move rfl rfl) ?_
  refine TL.val rfl rfl rfl (Y.maxI (n := 1) rfl rfl rfl) ?_
  refine TL.as (vN (max most 1)) (by (show vI _ = vI _; congr 1; omega)) ?_
  refine TL.val rfl rfl rfl (Y.buildS (cells := #[vN (max most 1), .slice none 0 0]) rfl rfl pl97 zc97 (by kernel_rfl)) ?_
  refine TL.eff rfl rfl rfl (X.boxA rfl rfl) ?_
  rintro _ _ ⟨b6, rfl, rfl⟩
  refine TL.val rfl rfl rfl (Y.assign rfl rfl) ?_
  refine TL.nil ?_
  refine TQ.next ?_
  refine TC.ret ?_
  refine TQ.retE (res1 rfl rfl) (⟨b6, rfl, rfl⟩) ?_
  exact (Ent.trans (Ent.nilOwn 67 2) (Ent.trans Ent.rdss0 (Ent.trans (put (l := ([] : List α)) (a := none) pul (by rfl) pul pul rfl (by rw [Dat.cs_eq]; rfl) rfl) ett)))
def rput (most : Nat) (l : List α) (x : α) : List α := if l.length + 1 ≤ most then l ++ [x] else (l ++ [x]).drop 1
theorem cs_drop (l : List α) (k : Nat) : Dat.cs (l.drop k) = (Dat.cs l).drop (k * Dat.sz α) := by
  have h : Dat.cs l = Dat.cs (l.take k) ++ Dat.cs (l.drop k) := by rw [← Dat.cs_app, List.take_append_drop]
  by_cases hk : k ≤ l.length
  · have hl : (Dat.cs (l.take k)).length = k * Dat.sz α := by rw [Dat.cs_len, List.length_take, Nat.min_eq_left hk]
    rw [h, ← hl, List.drop_left]
  · rw [List.drop_of_length_le (by omega), List.drop_of_length_le (by rw [Dat.cs_len]; exact Nat.mul_le_mul_right _ (by omega)), Dat.cs_eq]; rfl
set_option maxHeartbeats 1000000 in
--REG (*rostrum/wire.Ring[rostrum/twcc.arrival]).Put : _ _ rfl => (rga.Put_fn _ _ _ _ rfl (by omega) (by omega) _)
theorem Put_fn (b most : Nat) (l : List α) (x : α) (hs : Dat.sz α = 2) (hl : l.length ≤ 1000000000) (hm : most < 9223372036854775808) (L : List SA) :
    Fn Try.prog 21 [pt b 0, .agg (Dat.c x).toArray] (RG b most l :: SA.dat x :: L) (fun _ L' => L' = RG b most (rput most l x) :: L) := by
  have hcl : (Dat.c x).length = 2 := by rw [Dat.len]; exact hs
  refine Fn.of (N := 46) Try.func21 rfl rfl ?_
  intro Xh
  refine TC.seq ?_
  refine TC.region ?_
  refine TL.eff rfl rfl rfl (X.boxA rfl rfl) ?_
  rintro _ _ ⟨b3, rfl, rfl⟩
  refine TL.eff rfl rfl rfl (X.alloc rfl zc67) ?_
  rintro _ _ ⟨b4, rfl, rfl⟩
  refine TL.val rfl rfl rfl (Y.assign rfl rfl) ?_
  refine TL.nil ?_
  refine TQ.next ?_
  refine TC.seq ?_
  refine TC.region ?_
  refine TL.eff rfl rfl rfl (X.alloc rfl zc67) ?_
  rintro _ _ ⟨b6, rfl, rfl⟩
  refine TL.nil ?_
  refine TQ.next ?_
  refine TC.seq ?_
  refine TC.seq ?_
  refine TC.region ?_
  refine TL.val rfl rfl rfl (Y.move rfl rfl) ?_
  refine TL.val rfl rfl rfl (by first | exact Y.eqNilP rfl Try.underlying64 rfl rfl | exact Y.eqNil0 rfl Try.underlying64 rfl rfl) ?_
  refine TL.nil ?_
  refine TQ.next ?_
  refine TC.cond_f rfl ?_
  refine TC.skip ?_
  refine TQ.next ?_
  refine TC.seq ?_
  refine openC pul fun ra rc => ?_
  refine TC.draws 10 [SA.blk b #[vN most, .slice ra l.length rc] 97, SA.blk b3 (Dat.c x).toArray 67] (by kernel_rfl) (by kernel_rfl) hld ?_
  refine TA.tk 0 rfl rfl (Y.move rfl rfl) ?_
  refine TA.tk 1 rfl rfl (Y.move rfl rfl) ?_
  refine TA.tk 2 rfl rfl (Y.nilCheck rfl rfl) ?_
  refine TA.tk 3 rfl rfl (by first | exact Y.fieldAddrJ rfl fo97_1 rfl nqq | exact Y.fieldAddr rfl fo97_1 rfl nqq) ?_
  refine TA.tk 4 rfl rfl (Y.load rfl sc95 rfl celD) ?_
  refine TA.tk 5 rfl rfl (Y.loadAgg rfl ag67 rfl (by first | exact Cels.datAt inn (by assumption) | exact Cels.full inn) (by first | rfl | ((try simp only [List.length_map, List.length_set, List.length_replicate]); omega))) ?_
  refine TA.one 6 (by kernel_rfl) rfl rfl rfl rfl (X.litD x rfl Try.underlying95 (by kernel_rfl) rfl hs (by decide)) ?_
  rintro _ _ ⟨g16, rfl, rfl⟩
  refine ⟨(Or.inr hld), ?_⟩
  refine TA.one 7 (by kernel_rfl) rfl rfl rfl rfl (X.appendS rfl el95 rfl pul rfl (by first | exact Src.owns Try.underlying95 inn | exact Src.rds Try.underlying95 inn | exact Src.reads (by assumption) Try.underlying95 inn) (by simp only [maxLen]; omega) (by omega)) ?_
  rintro _ _ ⟨a17, c17, rfl, rfl⟩
  rw [show Dat.cs l ++ Dat.c x = Dat.cs (l ++ [x]) by rw [Dat.cs_app, Dat.cs_one], show l.length + 1 = (l ++ [x]).length by simp]
  refine ⟨(Or.inr hld), ?_⟩
  refine TA.tp 8 rfl rfl (Y.nilCheck rfl rfl) ?_
  refine TA.tk 9 rfl rfl (by first | exact Y.fieldAddrJ rfl fo97_1 rfl nqq | exact Y.fieldAddr rfl fo97_1 rfl nqq) ?_
  refine TA.one0 10 (by kernel_rfl) rfl rfl rfl (by first | exact X.store rfl sz95 rfl rfl rfl pul lnn (by first | exact setM | rfl) | exact X.storeOwn rfl sz95 rfl (Nat.zero_add _).symm rfl rfl pul lnn (by first | exact setML | rfl) | exact X.storeOwn rfl sz95 rfl rfl rfl rfl pul lnn (by first | exact setML | rfl)) ?_
  rintro _ _ rfl
  rw [show (#[vN most, .slice ra l.length rc] : Array Value).setIfInBounds 1 (.slice a17 (l ++ [x]).length c17) = #[vN most, .slice a17 (l ++ [x]).length c17] from rfl]
  refine ⟨(Or.inl (by kernel_rfl)), ?_⟩
  refine TA.done (by kernel_rfl) ?_
  refine TQ.next ?_
  refine TC.seq ?_
  refine TC.seq ?_
  refine TC.to (Ent.addEl (ys := l) (x := x) pul pul) ?_
  refine TC.draws 10 [SA.blk b #[vN most, .slice a17 (l ++ [x]).length c17] 97] (by kernel_rfl) (by kernel_rfl) hld ?_
  refine TA.tk 0 rfl rfl (Y.move rfl rfl) ?_
  refine TA.tk 1 rfl rfl (Y.nilCheck rfl rfl) ?_
  refine TA.tk 2 rfl rfl (by first | exact Y.fieldAddrJ rfl fo97_1 rfl nqq | exact Y.fieldAddr rfl fo97_1 rfl nqq) ?_
  refine TA.tk 3 rfl rfl (Y.load rfl sc95 rfl celD) ?_
  refine TA.tk 4 rfl rfl (Y.len rfl Try.underlying95 rfl) ?_
  refine TA.tk 5 rfl rfl (Y.move rfl rfl) ?_
  refine TA.tk 6 rfl rfl (Y.nilCheck rfl rfl) ?_
  refine TA.tk 7 rfl rfl (by first | exact Y.fieldAddrJ rfl fo97_0 rfl nqq | exact Y.fieldAddr rfl fo97_0 rfl nqq) ?_
  refine TA.tk 8 rfl rfl (Y.load rfl sc3 rfl celN) ?_
  refine TA.tk 9 rfl rfl (Y.bin rfl rfl rfl (br_leN)) ?_
  refine TA.done (by kernel_rfl) ?_
  refine TQ.next ?_
  refine TC.cond rfl (fun c1 => ?_) (fun c1 => ?_)
  · try simp only [decide_eq_true_eq, decide_eq_false_iff_not, Bool.not_eq_true', Bool.not_eq_false', Bool.and_eq_true, Bool.or_eq_true, Nat.not_lt, Nat.not_le, beq_iff_eq, bne_iff_ne] at c1
    have hr : rput most l x = l ++ [x] := if_pos (by simpa using c1)
    refine TC.seq ?_
    refine TC.region ?_
    refine TL.val rfl rfl rfl (Y.loadAgg rfl ag67 rfl (by first | exact Cels.datAt inn (by assumption) | exact Cels.full inn) (by first | rfl | ((try simp only [List.length_map, List.length_set, List.length_replicate]); omega))) ?_
    refine TL.eff0 rfl rfl (by first | exact X.storeAll rfl sz67 (by rfl) rfl rfl (allOne (by rfl)) pul (by rfl) | exact X.storeAll rfl sz67 szz rfl rfl (by simp [Value.oneCell']) pul szz | exact X.storeAgg rfl sz67 szz rfl rfl (by simp [Value.oneCell']) pul szz (writeM (by ((try simp only [List.length_set, List.length_map, List.length_append, List.length_replicate]); omega)))) ?_
    rintro _ _ rfl
    refine TL.val rfl rfl rfl (Y.assign rfl rfl) ?_
    refine TL.nil ?_
    refine TQ.next ?_
    refine TC.ret ?_
    refine TQ.then_ret ?_
    refine TQ.retE (resL rfl (Res.agg rfl ag67 (by first | exact Cels.full (l := Dat.c y) inn | exact Cels.all inn) (by first | rfl | assumption | omega) (Res.tmp rfl Res.nil))) ((by rw [hr])) ?_
    exact (Ent.trans (put pul (by rfl) pul pul rfl rfl rfl) ett)
  · try simp only [decide_eq_true_eq, decide_eq_false_iff_not, Bool.not_eq_true', Bool.not_eq_false', Bool.and_eq_true, Bool.or_eq_true, Nat.not_lt, Nat.not_le, beq_iff_eq, bne_iff_ne] at c1
    have hr : rput most l x = (l ++ [x]).drop 1 := if_neg (by simp at c1; omega)
    obtain ⟨y, hy, -⟩ := getS (l := l ++ [x]) (i := 0) (by simp)
    have hcy : (Dat.c y).length = 2 := by rw [Dat.len]; exact hs
    have hll : (l ++ [x]).length = l.length + 1 := by simp
    refine TC.know (owns_some (n := (l ++ [x]).length) (a := a17) inn (by omega)) ?_
    rintro ⟨g, off, rfl⟩
    refine TC.skip ?_
    refine TQ.next ?_
    refine TC.seq ?_
    refine TC.region ?_
    refine TL.val rfl rfl rfl (Y.move rfl rfl) ?_
    refine TL.val rfl rfl rfl (Y.nilCheck rfl rfl) ?_
    refine TL.val rfl rfl rfl (by first | exact Y.fieldAddrJ rfl fo97_1 rfl nqq | exact Y.fieldAddr rfl fo97_1 rfl nqq) ?_
    refine TL.val rfl rfl rfl (Y.load rfl sc95 rfl celD) ?_
    refine TL.val rfl rfl rfl (by first | exact Y.indexSlB (j := 0) rfl sl95 rfl rfl (by omega) nqq | exact Y.indexSl (j := 0) rfl sl95 rfl rfl (by omega) nqq) ?_
    refine TL.val rfl rfl rfl (Y.loadAgg rfl (by kernel_rfl) rfl (Cels.at (g := g) (off := off) (i := 0) Reads.owns inn hy hs) hcy) ?_
    refine TL.eff0 rfl rfl (X.storeAll (m := 2) rfl (by kernel_rfl) (vs := (Dat.c y).toArray) (by simpa using hcy) rfl rfl (Dat.one y) pul (by rfl)) ?_
    rintro _ _ rfl
    refine TL.nil ?_
    refine TQ.next ?_
    refine TC.seq ?_
    refine TC.region ?_
    refine TL.val rfl rfl rfl (Y.move rfl rfl) ?_
    refine TL.val rfl rfl rfl (Y.move rfl rfl) ?_
    refine TL.val rfl rfl rfl (Y.nilCheck rfl rfl) ?_
    refine TL.val rfl rfl rfl (by first | exact Y.fieldAddrJ rfl fo97_1 rfl nqq | exact Y.fieldAddr rfl fo97_1 rfl nqq) ?_
    refine TL.val rfl rfl rfl (Y.load rfl sc95 rfl celD) ?_
    refine TL.eff rfl rfl rfl (X.cl rfl Try.func31 rfl (h := (Delete_fn g off (l ++ [x]).length c17 0 1 (Dat.cs (l ++ [x])) (by omega) (by omega) _))) ?_
    rintro _ _ ⟨rfl, rfl⟩
    rw [show (Dat.cs (l ++ [x])).take (0 * 2) ++ (Dat.cs (l ++ [x])).drop (1 * 2) = Dat.cs ((l ++ [x]).drop 1) by rw [cs_drop, hs, Nat.zero_mul]; rfl, show 0 + ((l ++ [x]).length - 1) = ((l ++ [x]).drop 1).length by rw [List.length_drop]; omega]
    refine TL.val rfl rfl rfl (Y.nilCheck rfl rfl) ?_
    refine TL.val rfl rfl rfl (by first | exact Y.fieldAddrJ rfl fo97_1 rfl nqq | exact Y.fieldAddr rfl fo97_1 rfl nqq) ?_
    refine TL.eff0 rfl rfl (by first | exact X.store rfl sz95 rfl rfl rfl pul lnn (by first | exact setM | rfl) | exact X.storeOwn rfl sz95 rfl (Nat.zero_add _).symm rfl rfl pul lnn (by first | exact setML | rfl) | exact X.storeOwn rfl sz95 rfl rfl rfl rfl pul lnn (by first | exact setML | rfl)) ?_
    rintro _ _ rfl
    rw [show (#[vN most, .slice (some ⟨g, off, none⟩) (l ++ [x]).length c17] : Array Value).setIfInBounds 1 (.slice (some ⟨g, off, none⟩) ((l ++ [x]).drop 1).length c17) = #[vN most, .slice (some ⟨g, off, none⟩) ((l ++ [x]).drop 1).length c17] from rfl]
    refine TL.to (Ent.rdssDrop (hs := ((l ++ [x]).drop 1).flatMap Dat.g) pul (fun q hq => by obtain ⟨z, hz, hq⟩ := List.mem_flatMap.1 hq; exact List.mem_flatMap.2 ⟨z, List.mem_of_mem_drop hz, hq⟩)) ?_
    refine TL.nil ?_
    refine TQ.next ?_
    refine TC.seq ?_
    refine TC.region ?_
    refine TL.val rfl rfl rfl (Y.loadAgg rfl ag67 rfl (by first | exact Cels.datAt inn (by assumption) | exact Cels.full inn) (by first | rfl | ((try simp only [List.length_map, List.length_set, List.length_replicate]); omega))) ?_
    refine TL.eff0 rfl rfl (X.storeAll (m := 2) rfl (by kernel_rfl) (vs := (Dat.c y).toArray) (by simpa using hcy) rfl rfl (Dat.one y) pul (by rfl)) ?_
    rintro _ _ rfl
    refine TL.val rfl rfl rfl (Y.assign rfl rfl) ?_
    refine TL.nil ?_
    refine TQ.next ?_
    refine TC.ret ?_
    refine TQ.retE (resL rfl (Res.agg rfl ag67 (by first | exact Cels.full (l := Dat.c y) inn | exact Cels.all inn) (by first | rfl | assumption | omega) (Res.tmp rfl Res.nil))) ((by rw [hr])) ?_
    exact (Ent.trans (put pul (by rfl) pul pul rfl rfl rfl) ett)
--REG (*rostrum/wire.Ring[rostrum/twcc.arrival]).Len : _ _ ⟨rfl, rfl⟩ => (rga.Len_fn _ _ _ _)
theorem Len_fn (b most : Nat) (l : List α) (L : List SA) : Fn Try.prog 23 [pt b 0] (RG b most l :: L) (fun v L' => v = vN l.length ∧ L' = RG b most l :: L) := by
  refine Fn.of (N := 10) Try.func23 rfl rfl ?_
  intro Xh
  refine TC.seq ?_
  refine TC.region ?_
  refine TL.val rfl rfl rfl (Y.assign rfl rfl) ?_
  refine TL.nil ?_
  refine TQ.next ?_
  refine TC.seq ?_
  refine TC.seq ?_
  refine TC.region ?_
  refine TL.val rfl rfl rfl (Y.move rfl rfl) ?_
  refine TL.val rfl rfl rfl (by first | exact Y.eqNilP rfl Try.underlying64 rfl rfl | exact Y.eqNil0 rfl Try.underlying64 rfl rfl) ?_
  refine TL.nil ?_
  refine TQ.next ?_
  refine TC.cond_f rfl ?_
  refine TC.skip ?_
  refine TQ.next ?_
  refine TC.seq ?_
  refine openC pul fun ra rc => ?_
  refine TC.region ?_
  refine TL.val rfl rfl rfl (Y.move rfl rfl) ?_
  refine TL.val rfl rfl rfl (Y.nilCheck rfl rfl) ?_
  refine TL.val rfl rfl rfl (by first | exact Y.fieldAddrJ rfl fo97_1 rfl nqq | exact Y.fieldAddr rfl fo97_1 rfl nqq) ?_
  refine TL.val rfl rfl rfl (Y.load rfl sc95 rfl celD) ?_
  refine TL.val rfl rfl rfl (Y.len rfl Try.underlying95 rfl) ?_
  refine TL.val rfl rfl rfl (Y.assign rfl rfl) ?_
  refine TL.nil ?_
  refine TQ.next ?_
  refine TC.ret ?_
  refine TQ.retE (res1 rfl rfl) (⟨rfl, rfl⟩) ?_
  exact (Ent.trans (put pul (by rfl) pul pul rfl rfl rfl) ett)
/-- the place that 'All' makes, with the ring's own in it -/
abbrev AllC (c b : Nat) : SA := SA.blk c #[pt b 0] 64
abbrev allV (c : Nat) : Value := .func (.func 32) #[] #[pt c 0]
--REG (*rostrum/wire.Ring[rostrum/twcc.arrival]).All : _ _ ⟨c{d}, rfl, rfl⟩ => (rga.All_fn _ _)
theorem All_fn (b : Nat) (L : List SA) : Fn Try.prog 24 [pt b 0] L (fun v L' => ∃ c, v = allV c ∧ L' = AllC c b :: L) := by
  refine Fn.of (N := 4) Try.func24 rfl rfl ?_
  intro Xh
  refine TC.seq ?_
  refine TC.region ?_
  refine TL.eff rfl rfl rfl (X.box1 rfl rfl rfl) ?_
  rintro _ _ ⟨b1, rfl, rfl⟩
  refine TL.val rfl rfl rfl (Y.assign rfl rfl) ?_
  refine TL.nil ?_
  refine TQ.next ?_
  refine TC.seq ?_
  refine TC.region ?_
  refine TL.val rfl rfl rfl (Y.makeFunc rfl rfl rfl) ?_
  refine TL.val rfl rfl rfl (Y.assign rfl rfl) ?_
  refine TL.nil ?_
  refine TQ.next ?_
  refine TC.ret ?_
  refine TQ.retE (res1 rfl rfl) (⟨b1, rfl, rfl⟩) ?_
  exact ett
set_option maxHeartbeats 1000000 in
theorem All_iter (c b most : Nat) (l : List α) (hs : Dat.sz α = 2) (hl : l.length ≤ 1000000000) : Iter Try.prog 32 [pt c 0] l.length (fun i => [vN i, .agg (Dat.c (l.getD i Dat.dflt)).toArray]) [AllC c b, RG b most l] := fun ly S Sx hY Xa hX => by
  refine Fn.of (N := 24) Try.func32 rfl rfl ?_
  intro Xh
  refine TC.seq ?_
  refine TC.seq ?_
  refine TC.region ?_
  refine TL.val rfl rfl rfl (Y.load rfl sc64 rfl celD) ?_
  refine TL.val rfl rfl rfl (by first | exact Y.eqNilP rfl Try.underlying64 rfl rfl | exact Y.eqNil0 rfl Try.underlying64 rfl rfl) ?_
  refine TL.nil ?_
  refine TQ.next ?_
  refine TC.cond_f rfl ?_
  refine TC.skip ?_
  refine TQ.next ?_
  refine TC.seq ?_
  refine openC (b := b) pul fun ra rc => ?_
  refine TC.region ?_
  refine TL.val rfl rfl rfl (Y.load rfl sc64 rfl celD) ?_
  refine TL.val rfl rfl rfl (Y.nilCheck rfl rfl) ?_
  refine TL.val rfl rfl rfl (by first | exact Y.fieldAddrJ rfl fo97_1 rfl nqq | exact Y.fieldAddr rfl fo97_1 rfl nqq) ?_
  refine TL.val rfl rfl rfl (Y.load rfl sc95 rfl celD) ?_
  refine TL.eff rfl rfl rfl (X.cl rfl Try.func33 rfl (h := (Clone_fn (SA.owns 67 2 (.slice ra l.length rc) l.length (Dat.cs l)) ra l.length rc (Dat.cs l) Reads.owns (by omega) (by omega) _))) ?_
  rintro _ _ ⟨a11, c11, rfl, rfl⟩
  refine TL.val rfl rfl rfl (Y.len rfl Try.underlying95 rfl) ?_
  refine TL.val rfl rfl rfl (Y.move rfl rfl) ?_
  refine TL.nil ?_
  refine TQ.next ?_
  refine TC.block ?_
  refine TC.to (put (b := b) pul (by rfl) pul pul rfl rfl rfl) ?_
  refine TC.to (Ent.trans (Ent.cons (A := Xa) pul (Ent.cons (A := AllC c b) pul (Ent.cons (A := RG b most l) pul Ent.refl))) (Ent.app2 hX)) ?_
  refine TC.loopF (ι := Nat) [] (fun k => k ≤ l.length) (fun k => [(13, some (vN k))]) (fun k => [S k, SA.owns 67 2 (.slice a11 l.length c11) l.length (Dat.cs l)]) (fun k => l.length - k) (0) (by omega) ⟨rfl, trivial⟩ (Pulls.cons pul (Pulls.cons pul Pulls.nil)) ?_
  rintro k hk F' L' rfl hL'
  simp only [List.cons_append, List.nil_append] at hL'
  subst hL'
  refine TC.seq ?_
  refine TC.region ?_
  refine TL.val rfl rfl rfl (Y.bin rfl rfl rfl (br_ltN)) ?_
  refine TL.nil ?_
  refine TQ.next ?_
  refine TC.seq ?_
  refine TC.cond rfl (fun c1 => ?_) (fun c1 => ?_)
  · try simp only [decide_eq_true_eq, decide_eq_false_iff_not, Bool.not_eq_true', Bool.not_eq_false', Bool.and_eq_true, Bool.or_eq_true, Nat.not_lt, Nat.not_le, beq_iff_eq, bne_iff_ne] at c1
    refine TC.skip ?_
    refine TQ.next ?_
    refine TC.seq ?_
    refine TC.block ?_
    refine TC.seq ?_
    obtain ⟨x, hx, -⟩ := getS (l := l) (i := k) (by omega)
    have hcx : (Dat.c x).length = 2 := by rw [Dat.len]; exact hs
    have hd : l.getD k Dat.dflt = x := by rw [List.getD_eq_getElem?_getD, hx]; rfl
    refine TC.know (owns_some (n := l.length) (a := a11) inn (by omega)) ?_
    rintro ⟨g, off, rfl⟩
    refine TC.region ?_
    refine TL.val rfl rfl rfl (Y.move rfl rfl) ?_
    refine TL.val rfl rfl rfl (by first | exact Y.indexSlB rfl sl95 rfl rfl (by omega) nqq | exact Y.indexSl rfl sl95 rfl rfl (by omega) nqq) ?_
    refine TL.val rfl rfl rfl (Y.loadAgg rfl (by kernel_rfl) rfl (Cels.at (g := g) (off := off) Reads.owns inn hx hs) hcx) ?_
    refine TL.eff rfl rfl rfl (X.alloc rfl zc67) ?_
    rintro _ _ ⟨b4, rfl, rfl⟩
    refine TL.val rfl rfl rfl (Y.assign rfl rfl) ?_
    refine TL.eff0 rfl rfl (X.storeAll (m := 2) rfl (by kernel_rfl) (vs := (Dat.c x).toArray) (by simpa using hcx) rfl rfl (Dat.one x) pul (by rfl)) ?_
    rintro _ _ rfl
    refine TL.nil ?_
    refine TQ.next ?_
    refine TC.seq ?_
    refine TC.region ?_
    refine TL.val rfl rfl rfl (Y.move rfl rfl) ?_
    refine TL.val rfl rfl rfl (Y.move rfl rfl) ?_
    refine TL.val rfl rfl rfl (Y.loadAgg rfl ag67 rfl (by first | exact Cels.datAt inn (by assumption) | exact Cels.full inn) (by first | rfl | ((try simp only [List.length_map, List.length_set, List.length_replicate]); omega))) ?_
    refine TL.effI rfl rfl rfl (X.yieldB hY rfl rfl (by show _ = some [vN k, .agg (Dat.c (l.getD k Dat.dflt)).toArray]; rw [hd]; rfl) (by omega) pul) ?_
    rintro _ _ ⟨bo, rfl, rfl⟩
    refine TL.val rfl rfl rfl (Y.not rfl rfl) ?_
    refine TL.nil ?_
    refine TQ.next ?_
    refine TC.cond rfl (fun c2 => ?_) (fun c2 => ?_)
    · try simp only [decide_eq_true_eq, decide_eq_false_iff_not, Bool.not_eq_true', Bool.not_eq_false', Bool.and_eq_true, Bool.or_eq_true, Nat.not_lt, Nat.not_le, beq_iff_eq, bne_iff_ne] at c2
      subst c2
      have hstop : True := trivial
      simp only [cond_false]
      refine TC.ret ?_
      refine TQ.block_ret ?_
      refine TQ.then_ret ?_
      refine TQ.then_ret ?_
      refine TQ.block_ret ?_
      refine TQ.retE (res0 rfl) ((by first | (have := hstop; exact Or.inr rfl) | exact Or.inl rfl)) ?_
      exact ett
    · try simp only [decide_eq_true_eq, decide_eq_false_iff_not, Bool.not_eq_true', Bool.not_eq_false', Bool.and_eq_true, Bool.or_eq_true, Nat.not_lt, Nat.not_le, beq_iff_eq, bne_iff_ne] at c2
      subst c2
      simp only [cond_true]
      refine TC.skip ?_
      refine TQ.block_normal ?_
      refine TQ.next ?_
      refine TC.region ?_
      refine TL.val rfl rfl rfl (Y.bin rfl rfl rfl (br_addN (n := 1) (by omega))) ?_
      refine TL.val rfl rfl rfl (Y.move rfl rfl) ?_
      refine TL.nil ?_
      refine TQ.loopF (k + 1) (by omega) (by omega) ⟨rfl, trivial⟩ grw ?_ ?_ ?_
      · kernel_rfl
      · rfl
      · simp only [List.cons_append, List.nil_append]
        exact ett
  · try simp only [decide_eq_true_eq, decide_eq_false_iff_not, Bool.not_eq_true', Bool.not_eq_false', Bool.and_eq_true, Bool.or_eq_true, Nat.not_lt, Nat.not_le, beq_iff_eq, bne_iff_ne] at c1
    obtain rfl : k = l.length := by omega
    refine TC.exit ?_
    refine TQ.then_exit ?_
    refine TQ.then_exit ?_
    refine TQ.block_exit ?_
    refine TQ.endE (res0 rfl) ((by first | (have := hstop; exact Or.inr rfl) | exact Or.inl rfl)) ?_
    exact ett
end
end rga
end Go.Proofs.Ythamkpjiecigjaa

/- wire.Far16 and the document's. -/
namespace Go.Proofs.Ythamkpjiecigjaa
set_option linter.unusedVariables false
set_option linter.unusedSimpArgs false
open Go.RowKit
namespace r1
namespace FxFar
set_option maxRecDepth 100000

end FxFar
open FxFar
def far16 (a b : UInt16) : Int := if (b - a).toNat < 32768 then ((b - a).toNat : Int) else ((b - a).toNat : Int) - 65536
theorem far16_lo (a b : UInt16) : -32768 ≤ far16 a b := by have := (b - a).toNat_lt; unfold far16; split <;> omega
theorem far16_hi (a b : UInt16) : far16 a b < 32768 := by have := (b - a).toNat_lt; unfold far16; split <;> omega
theorem cv_i16 (x : UInt16) : IntKind.i16.wrap (x.toNat : Int) = if x.toNat < 32768 then (x.toNat : Int) else (x.toNat : Int) - 65536 := by
  have := x.toNat_lt
  simp [IntKind.wrap, IntKind.bits, IntKind.signed]
  split <;> omega
--REG rostrum/wire.Far16 : _ _ ⟨rfl, rfl⟩ => (r1.wFar16_fn _ _ _)
theorem wFar16_fn (a b : UInt16) (L : List SA) : Fn Try.prog 25 [v16 a, v16 b] L (fun v L' => v = vI (far16 a b) ∧ L' = L) := by
  have h1 := far16_lo a b
  have h2 := far16_hi a b
  refine Fn.of (N := 10) Try.func25 rfl rfl ?_
  intro Xh
  refine TC.seq ?_
  refine TC.region ?_
  refine TL.val rfl rfl rfl (Y.assign rfl rfl) ?_
  refine TL.nil ?_
  refine TQ.next ?_
  refine TC.seq ?_
  refine TC.region ?_
  refine TL.val rfl rfl rfl (Y.move rfl rfl) ?_
  refine TL.val rfl rfl rfl (Y.move rfl rfl) ?_
  refine TL.val rfl rfl rfl (Y.bin rfl rfl rfl (br_sub16)) ?_
  refine TL.val rfl rfl rfl (Y.conv (m := far16 a b) rfl Try.underlying29 Try.underlying101 rfl (cv_i16 _)) ?_
  refine TL.val rfl rfl rfl (Y.conv (m := far16 a b) rfl Try.underlying101 Try.underlying3 rfl (wrap_i64 _ (by omega) (by omega))) ?_
  refine TL.val rfl rfl rfl (Y.assign rfl rfl) ?_
  refine TL.nil ?_
  refine TQ.next ?_
  refine TC.ret ?_
  refine TQ.retE (res1 rfl rfl) (⟨rfl, rfl⟩) ?_
  exact ett
--REG rostrum/rostrumref01.Far16 : _ _ ⟨rfl, rfl⟩ => (r1.Far16_fn _ _ _)
theorem Far16_fn (a b : UInt16) (L : List SA) : Fn Try.prog 26 [v16 a, v16 b] L (fun v L' => v = vI (far16 a b) ∧ L' = L) := by
  have h1 := (b - a).toNat_lt
  refine Fn.of (N := 15) Try.func26 rfl rfl ?_
  intro Xh
  refine TC.seq ?_
  refine TC.region ?_
  refine TL.val rfl rfl rfl (Y.assign rfl rfl) ?_
  refine TL.nil ?_
  refine TQ.next ?_
  refine TC.seq ?_
  refine TC.region ?_
  refine TL.val rfl rfl rfl (Y.move rfl rfl) ?_
  refine TL.val rfl rfl rfl (Y.move rfl rfl) ?_
  refine TL.val rfl rfl rfl (Y.bin rfl rfl rfl (br_sub16)) ?_
  refine TL.val rfl rfl rfl (Y.conv rfl Try.underlying29 Try.underlying3 rfl (cv_16_N)) ?_
  refine TL.val rfl rfl rfl (Y.assign rfl rfl) ?_
  refine TL.nil ?_
  refine TQ.next ?_
  refine TC.seq ?_
  refine TC.seq ?_
  refine TC.region ?_
  refine TL.val rfl rfl rfl (Y.move rfl rfl) ?_
  refine TL.val rfl rfl rfl (Y.bin rfl rfl rfl (br_geN (n := 32768))) ?_
  refine TL.nil ?_
  refine TQ.next ?_
  refine TC.cond rfl (fun c0 => ?_) (fun c0 => ?_)
  · try simp only [decide_eq_true_eq, decide_eq_false_iff_not, Bool.not_eq_true', Bool.not_eq_false', Bool.and_eq_true, Bool.or_eq_true, Nat.not_lt, Nat.not_le, beq_iff_eq, bne_iff_ne] at c0
    refine TC.seq ?_
    refine TC.region ?_
    refine TL.val rfl rfl rfl (Y.move rfl rfl) ?_
    refine TL.val rfl rfl rfl (Y.bin rfl rfl rfl (br_subI (n := 65536) (by omega) (by omega))) ?_
    refine TL.val rfl rfl rfl (Y.assign rfl rfl) ?_
    refine TL.nil ?_
    refine TQ.next ?_
    refine TC.ret ?_
    refine TQ.then_ret ?_
    refine TQ.retE (res1 rfl rfl) ((by refine ⟨?_, rfl⟩; unfold far16; first | rw [if_neg (by omega)] | rw [if_pos (by omega)])) ?_
    exact ett
  · try simp only [decide_eq_true_eq, decide_eq_false_iff_not, Bool.not_eq_true', Bool.not_eq_false', Bool.and_eq_true, Bool.or_eq_true, Nat.not_lt, Nat.not_le, beq_iff_eq, bne_iff_ne] at c0
    refine TC.skip ?_
    refine TQ.next ?_
    refine TC.seq ?_
    refine TC.region ?_
    refine TL.val rfl rfl rfl (Y.move rfl rfl) ?_
    refine TL.val rfl rfl rfl (Y.assign rfl rfl) ?_
    refine TL.nil ?_
    refine TQ.next ?_
    refine TC.ret ?_
    refine TQ.retE (res1 rfl rfl) ((by refine ⟨?_, rfl⟩; unfold far16; first | rw [if_neg (by omega)] | rw [if_pos (by omega)])) ?_
    exact ett
end r1
end Go.Proofs.Ythamkpjiecigjaa

/- twcc: what a recorder knows; ours. -/
namespace Go.Proofs.Ythamkpjiecigjaa
set_option linter.unusedVariables false
set_option linter.unusedSimpArgs false
open Go.RowKit
namespace tw
namespace FxTwcc
set_option maxRecDepth 100000
theorem fo67_0 : Program.fieldOff Try.prog 67 0 = some 0 := by kernel_rfl
theorem fo67_1 : Program.fieldOff Try.prog 67 1 = some 1 := by kernel_rfl
theorem fo69_0 : Program.fieldOff Try.prog 69 0 = some 0 := by kernel_rfl
theorem pl67 : Program.places Try.prog 67 = some [(0, 1), (1, 1)] := by kernel_rfl
theorem pl69 : Program.places Try.prog 69 = some [(0, 1), (1, 1)] := by kernel_rfl
theorem sc2 : Program.isSc Try.prog 2 = true := by kernel_rfl
theorem sc29 : Program.isSc Try.prog 29 = true := by kernel_rfl
theorem sc4 : Program.isSc Try.prog 4 = true := by kernel_rfl
theorem sc64 : Program.isSc Try.prog 64 = true := by kernel_rfl
theorem sz2 : (Try.prog.info? 2).map (·.size) = some 1 := by kernel_rfl
theorem sz4 : (Try.prog.info? 4).map (·.size) = some 1 := by kernel_rfl
theorem sz67 : (Try.prog.info? 67).map (·.size) = some 2 := by kernel_rfl
theorem zc2 : Program.zeroC Try.prog 2 = some #[.int .i64 0] := by kernel_rfl
theorem zc4 : Program.zeroC Try.prog 4 = some #[.bool false] := by kernel_rfl
theorem zc67 : Program.zeroC Try.prog 67 = some #[.int .u16 0, .int .i64 0] := by kernel_rfl
theorem zc69 : Program.zeroC Try.prog 69 = some #[.pointer none, .int .u8 0] := by kernel_rfl
end FxTwcc
open FxTwcc
abbrev AR := UInt16 × Nat
def fa (l : List AR) (q : UInt16) : Option AR := l.find? fun x => x.1 == q
theorem fa_none {l : List AR} {q : UInt16} (h : ∀ y ∈ l, y.1 ≠ q) : fa l q = none := by
  rw [fa, List.find?_eq_none]; intro y hy; simpa using h y hy
theorem cut_at {α : Type} {l : List α} {i : Nat} {x : α} (hx : l[i]? = some x) : l = l.take i ++ x :: l.drop (i + 1) := by
  obtain ⟨hi, he⟩ := List.getElem?_eq_some_iff.1 hx
  rw [← he, List.getElem_cons_drop, List.take_append_drop]
theorem fa_at {l : List AR} {q : UInt16} {i : Nat} {x : AR} (h : ∀ y ∈ l.take i, y.1 ≠ q) (hx : l[i]? = some x) (hq : x.1 = q) : fa l q = some x := by
  rw [cut_at hx, fa, List.find?_append, show (l.take i).find? (fun x => x.1 == q) = none from fa_none h]
  simp [hq]
theorem ne_next {l : List AR} {q : UInt16} {i : Nat} {x : AR} (h : ∀ y ∈ l.take i, y.1 ≠ q) (hx : l[i]? = some x) (hq : ¬ x.1 = q) : ∀ y ∈ l.take (i + 1), y.1 ≠ q := by
  intro y hy
  rw [List.take_add_one, hx] at hy
  rcases List.mem_append.1 hy with hy | hy
  · exact h y hy
  · simp at hy; subst hy; exact hq
def wh (l : List AR) (q : UInt16) : Nat × Bool := match fa l q with
  | some x => (x.2, true)
  | none => (0, false)
theorem wh_some {l : List AR} {q : UInt16} {x : AR} (h : fa l q = some x) : wh l q = (x.2, true) := by rw [wh, h]
theorem wh_none {l : List AR} {q : UInt16} (h : fa l q = none) : wh l q = (0, false) := by rw [wh, h]
set_option maxHeartbeats 1000000 in
--REG (*rostrum/twcc.Recorder).when : _ _ ⟨rfl, rfl⟩ => (tw.when_fn _ _ _ _ _ (by omega) _)
theorem when_fn (rb g : Nat) (cnt : UInt8) (l : List AR) (q : UInt16) (hl : l.length ≤ 1000000) (L : List SA) :
    Fn Try.prog 20 [pt rb 0, v16 q] (SA.blk rb #[pt g 0, v8 cnt] 69 :: rga.RG g 64 l :: L)
      (fun v L' => v = .tuple #[vN (wh l q).1, .bool (wh l q).2] ∧ L' = SA.blk rb #[pt g 0, v8 cnt] 69 :: rga.RG g 64 l :: L) := by
  refine Fn.of (N := 21) Try.func20 rfl rfl ?_
  intro Xh
  refine TC.seq ?_
  refine TC.region ?_
  refine TL.eff rfl rfl rfl (X.box1 rfl rfl rfl) ?_
  rintro _ _ ⟨b3, rfl, rfl⟩
  refine TL.eff rfl rfl rfl (X.alloc rfl zc2) ?_
  rintro _ _ ⟨b4, rfl, rfl⟩
  refine TL.eff rfl rfl rfl (X.alloc rfl zc4) ?_
  rintro _ _ ⟨b5, rfl, rfl⟩
  refine TL.nil ?_
  refine TQ.next ?_
  refine TC.seq ?_
  refine TC.seq ?_
  refine TC.region ?_
  refine TL.val rfl rfl rfl (Y.move rfl rfl) ?_
  refine TL.val rfl rfl rfl (Y.nilCheck rfl rfl) ?_
  refine TL.val rfl rfl rfl (by first | exact Y.fieldAddrJ rfl fo69_0 rfl nqq | exact Y.fieldAddr rfl fo69_0 rfl nqq) ?_
  refine TL.val rfl rfl rfl (Y.load rfl sc64 rfl celD) ?_
  refine TL.eff rfl rfl rfl (X.cl rfl Try.func24 rfl (h := (rga.All_fn _ _))) ?_
  rintro _ _ ⟨c12, rfl, rfl⟩
  refine TL.nil ?_
  refine TQ.next ?_
  refine TC.block ?_
  refine TC.rangeF (ι := Unit) (ιx := AR) Try.func32 (by kernel_rfl) (by kernel_rfl) rfl (by kernel_rfl) (rga.All_iter c12 g 64 l rfl (by omega)) (fun _ => rfl) (fun i _ => ∀ y ∈ l.take i, y.1 ≠ q) (fun j => [SA.blk b4 #[vN 0] 2, SA.blk b5 #[.bool false] 4]) _ (fun x => fa l q = some x) (fun _ => .ret) (fun x => [SA.blk b4 #[vN x.2] 2, SA.blk b5 #[.bool true] 4]) (()) ((fun y hy => by simp at hy)) (Pulls.cons pul (Pulls.cons pul Pulls.nil)) (Pulls.ent (Pulls.cons pul (Pulls.cons pul Pulls.nil))) ?_ ?_ ?_
  · rintro i j hi hI lr rr ZZ F' L' rfl hL'
    simp only [List.cons_append, List.nil_append] at hL'
    subst hL'
    simp only [psF, List.nil_append, List.append_nil, List.cons_append]
    obtain ⟨x, hx, -⟩ := getS (l := l) (i := i) hi
    obtain ⟨xq, xa⟩ := x
    have hd : l.getD i Dat.dflt = (xq, xa) := by rw [List.getD_eq_getElem?_getD, hx]; rfl
    rw [hd, show (Dat.c ((xq, xa) : AR)).toArray = #[v16 xq, vN xa] from rfl]
    refine TC.region ?_
    refine TL.eff rfl rfl rfl (X.alloc rfl zc67) ?_
    rintro _ _ ⟨b7, rfl, rfl⟩
    refine TL.eff0 rfl rfl (by first | exact X.storeAll rfl sz67 (by rfl) rfl rfl (allOne (by rfl)) pul (by rfl) | exact X.storeAll rfl sz67 szz rfl rfl (by simp [Value.oneCell']) pul szz | exact X.storeAgg rfl sz67 szz rfl rfl (by simp [Value.oneCell']) pul szz (writeM (by ((try simp only [List.length_set, List.length_map, List.length_append, List.length_replicate]); omega)))) ?_
    rintro _ _ rfl
    refine TL.nil ?_
    refine TQ.begin ?_
    refine TC.block ?_
    refine TC.seq ?_
    refine TC.region ?_
    refine TL.val rfl rfl rfl (by first | exact Y.fieldAddrJ rfl fo67_0 rfl nqq | exact Y.fieldAddr rfl fo67_0 rfl nqq) ?_
    refine TL.val rfl rfl rfl (Y.load rfl sc29 rfl cel16) ?_
    refine TL.val rfl rfl rfl (Y.load rfl sc29 rfl cel16) ?_
    refine TL.val rfl rfl rfl (Y.bin rfl rfl rfl (br_eq16)) ?_
    refine TL.nil ?_
    refine TQ.next ?_
    refine TC.cond rfl (fun c0 => ?_) (fun c0 => ?_)
    · try simp only [decide_eq_true_eq, decide_eq_false_iff_not, Bool.not_eq_true', Bool.not_eq_false', Bool.and_eq_true, Bool.or_eq_true, Nat.not_lt, Nat.not_le, beq_iff_eq, bne_iff_ne] at c0
      have hfx : fa l q = some (xq, xa) := fa_at hI hx (by simpa using c0)
      refine TC.seq ?_
      refine TC.region ?_
      refine TL.val rfl rfl rfl (by first | exact Y.fieldAddrJ rfl fo67_1 rfl nqq | exact Y.fieldAddr rfl fo67_1 rfl nqq) ?_
      refine TL.val rfl rfl rfl (Y.load rfl sc2 rfl celN) ?_
      refine TL.eff0 rfl rfl (by first | exact X.store rfl sz2 rfl rfl rfl pul lnn (by first | exact setM | rfl) | exact X.storeOwn rfl sz2 rfl (Nat.zero_add _).symm rfl rfl pul lnn (by first | exact setML | rfl) | exact X.storeOwn rfl sz2 rfl rfl rfl rfl pul lnn (by first | exact setML | rfl)) ?_
      rintro _ _ rfl
      refine TL.eff0 rfl rfl (by first | exact X.store rfl sz4 rfl rfl rfl pul lnn (by first | exact setM | rfl) | exact X.storeOwn rfl sz4 rfl (Nat.zero_add _).symm rfl rfl pul lnn (by first | exact setML | rfl) | exact X.storeOwn rfl sz4 rfl rfl rfl rfl pul lnn (by first | exact setML | rfl)) ?_
      rintro _ _ rfl
      refine TL.nil ?_
      refine TQ.next ?_
      refine TC.ret ?_
      refine TQ.block_ret ?_
      refine TQ.rd_ret ((xq, xa)) (hfx) rfl ?_
      simp only [List.cons_append, List.nil_append]
      exact ett
    · try simp only [decide_eq_true_eq, decide_eq_false_iff_not, Bool.not_eq_true', Bool.not_eq_false', Bool.and_eq_true, Bool.or_eq_true, Nat.not_lt, Nat.not_le, beq_iff_eq, bne_iff_ne] at c0
      have hnx := ne_next hI hx (by simpa using c0)
      refine TC.skip ?_
      refine TQ.block_normal ?_
      refine TQ.rd_next (()) (hnx) ?_
      simp only [List.cons_append, List.nil_append]
      exact ett
  · rintro j hI L' hL'
    simp only [List.cons_append, List.nil_append] at hL'
    subst hL'
    have hs := wh_none (fa_none (l := l) (q := q) (by simpa using hI))
    refine TQ.block_normal ?_
    refine TQ.next ?_
    refine TC.seq ?_
    refine TC.region ?_
    refine TL.eff0 rfl rfl (by first | exact X.store rfl sz2 rfl rfl rfl pul lnn (by first | exact setM (f := vN) (x := 0) | rfl) | exact X.storeOwn rfl sz2 rfl (Nat.zero_add _).symm rfl rfl pul lnn (by first | exact setML (f := vN) (x := 0) | rfl) | exact X.storeOwn rfl sz2 rfl rfl rfl rfl pul lnn (by first | exact setML (f := vN) (x := 0) | rfl)) ?_
    rintro _ _ rfl
    refine TL.eff0 rfl rfl (by first | exact X.store rfl sz4 rfl rfl rfl pul lnn (by first | exact setM | rfl) | exact X.storeOwn rfl sz4 rfl (Nat.zero_add _).symm rfl rfl pul lnn (by first | exact setML | rfl) | exact X.storeOwn rfl sz4 rfl rfl rfl rfl pul lnn (by first | exact setML | rfl)) ?_
    rintro _ _ rfl
    refine TL.nil ?_
    refine TQ.next ?_
    refine TC.ret ?_
    refine TQ.retE (resL rfl (Res.cell rfl sc2 (Cel.blk inn rfl) (Res.cell rfl sc4 (Cel.blk inn rfl) Res.nil))) (⟨by rw [hs]; rfl, rfl⟩) ?_
    exact ett
  · rintro x hx L' hL'
    simp only [List.cons_append, List.nil_append] at hL'
    subst hL'
    have hs := wh_some hx
    refine TC.ret ?_
    refine TQ.block_ret ?_
    refine TQ.then_ret ?_
    refine TQ.retE (resL rfl (Res.cell rfl sc2 (Cel.blk inn rfl) (Res.cell rfl sc4 (Cel.blk inn rfl) Res.nil))) (⟨by rw [hs]; rfl, rfl⟩) ?_
    exact ett
def nw (now : Int) : Nat := (min (max now 0) 1099511627776).toNat
theorem nw_v (now : Int) : vI (min (max now 0) 1099511627776) = vN (nw now) := by
  show vI _ = vI ((nw now : Nat) : Int)
  congr 1; unfold nw; omega
def nt (l : List AR) (q : UInt16) (now : Int) : List AR := if (wh l q).2 then l else rga.rput 64 l (q, nw now)
--REG (*rostrum/twcc.Recorder).Note : _ _ rfl => (tw.Note_fn _ _ _ _ {1} {2} (by omega) _)
theorem Note_fn (rb g : Nat) (cnt : UInt8) (l : List AR) (q : UInt16) (now : Int) (hl : l.length ≤ 1000000) (L : List SA) :
    Fn Try.prog 9 [pt rb 0, v16 q, vI now] (SA.blk rb #[pt g 0, v8 cnt] 69 :: rga.RG g 64 l :: L)
      (fun _ L' => L' = SA.blk rb #[pt g 0, v8 cnt] 69 :: rga.RG g 64 (nt l q now) :: L) := by
  refine Fn.of (N := 28) Try.func9 rfl rfl ?_
  intro Xh
  refine TC.seq ?_
  refine TC.seq ?_
  refine TC.region ?_
  refine TL.val rfl rfl rfl (Y.move rfl rfl) ?_
  refine TL.val rfl rfl rfl (by first | exact Y.eqNilP rfl Try.underlying25 rfl rfl | exact Y.eqNil0 rfl Try.underlying25 rfl rfl) ?_
  refine TL.nil ?_
  refine TQ.next ?_
  refine TC.cond_f rfl ?_
  refine TC.skip ?_
  refine TQ.next ?_
  refine TC.seq ?_
  refine TC.region ?_
  refine TL.val rfl rfl rfl (Y.move rfl rfl) ?_
  refine TL.val rfl rfl rfl (Y.move rfl rfl) ?_
  refine TL.eff rfl rfl rfl (X.cl rfl Try.func20 rfl (h := (tw.when_fn _ _ _ _ _ (by omega) _))) ?_
  rintro _ _ ⟨rfl, rfl⟩
  refine TL.val rfl rfl rfl (Y.move rfl rfl) ?_
  refine TL.val rfl rfl rfl (Y.extract rfl rfl rfl) ?_
  refine TL.val rfl rfl rfl (Y.extract rfl rfl rfl) ?_
  refine TL.val rfl rfl rfl (Y.assign rfl rfl) ?_
  refine TL.val rfl rfl rfl (Y.assign rfl rfl) ?_
  refine TL.nil ?_
  refine TQ.next ?_
  refine TC.seq ?_
  refine TC.region ?_
  refine TL.val rfl rfl rfl (Y.move rfl rfl) ?_
  refine TL.val rfl rfl rfl (Y.not rfl rfl) ?_
  refine TL.nil ?_
  refine TQ.next ?_
  refine TC.cond rfl (fun c1 => ?_) (fun c1 => ?_)
  · try simp only [decide_eq_true_eq, decide_eq_false_iff_not, Bool.not_eq_true', Bool.not_eq_false', Bool.and_eq_true, Bool.or_eq_true, Nat.not_lt, Nat.not_le, beq_iff_eq, bne_iff_ne] at c1
    have hn : nt l q now = rga.rput 64 l (q, nw now) := by unfold nt; rw [if_neg (by simpa using c1)]
    refine TC.to Ent.rdss0 ?_
    refine TC.region ?_
    refine TL.val rfl rfl rfl (Y.move rfl rfl) ?_
    refine TL.val rfl rfl rfl (Y.nilCheck rfl rfl) ?_
    refine TL.val rfl rfl rfl (by first | exact Y.fieldAddrJ rfl fo69_0 rfl nqq | exact Y.fieldAddr rfl fo69_0 rfl nqq) ?_
    refine TL.val rfl rfl rfl (Y.load rfl sc64 rfl celD) ?_
    refine TL.val rfl rfl rfl (Y.move rfl rfl) ?_
    refine TL.val rfl rfl rfl (Y.move rfl rfl) ?_
    refine TL.val rfl rfl rfl (Y.maxI (n := 0) rfl rfl rfl) ?_
    refine TL.val rfl rfl rfl (Y.minI (n := 1099511627776) rfl rfl rfl) ?_
    refine TL.val rfl rfl rfl (Y.buildS rfl rfl pl67 zc67 rfl) ?_
    refine TL.as (.agg (Dat.c ((q, nw now) : AR)).toArray) (by (rw [nw_v]; rfl)) ?_
    refine TL.eff rfl rfl rfl (X.cl rfl Try.func21 rfl (h := (rga.Put_fn (α := AR) _ _ _ (q, nw now) rfl (by omega) (by omega) _))) ?_
    rintro _ _ rfl
    refine TL.nil ?_
    refine TQ.endE (res0 rfl) ((by rw [hn])) ?_
    exact ett
  · try simp only [decide_eq_true_eq, decide_eq_false_iff_not, Bool.not_eq_true', Bool.not_eq_false', Bool.and_eq_true, Bool.or_eq_true, Nat.not_lt, Nat.not_le, beq_iff_eq, bne_iff_ne] at c1
    have hn : nt l q now = l := by unfold nt; rw [if_pos (by simpa using c1)]
    refine TC.skip ?_
    refine TQ.endE (res0 rfl) ((by rw [hn])) ?_
    exact ett
--REG rostrum/twcc.NewRecorder : _ _ ⟨r{d}, rg{d}, rfl, rfl⟩ => (tw.New_fn _)
theorem New_fn (L : List SA) : Fn Try.prog 7 [] L
      (fun v L' => ∃ r g, v = pt r 0 ∧ L' = SA.blk r #[pt g 0, v8 0] 69 :: rga.RG g 64 ([] : List AR) :: L) := by
  refine Fn.of (N := 4) Try.func7 rfl rfl ?_
  intro Xh
  refine TC.seq ?_
  refine TC.region ?_
  refine TL.val rfl rfl rfl (Y.assign rfl rfl) ?_
  refine TL.nil ?_
  refine TQ.next ?_
  refine TC.seq ?_
  refine TC.region ?_
  refine TL.eff rfl rfl rfl (X.cl rfl Try.func19 rfl (h := (rga.New_fn (α := AR) 64 _))) ?_
  rintro _ _ ⟨rg1, rfl, rfl⟩
  rw [show max 64 1 = 64 from rfl]
  refine TL.val rfl rfl rfl (Y.buildS rfl rfl pl69 zc69 rfl) ?_
  refine TL.eff rfl rfl rfl (X.boxA rfl rfl) ?_
  rintro _ _ ⟨b3, rfl, rfl⟩
  refine TL.val rfl rfl rfl (Y.assign rfl rfl) ?_
  refine TL.nil ?_
  refine TQ.next ?_
  refine TC.ret ?_
  refine TQ.retE (res1 rfl rfl) (⟨b3, rg1, rfl, rfl⟩) ?_
  exact ett
end tw
end Go.Proofs.Ythamkpjiecigjaa

/- twcc: the document's recorder. -/
namespace Go.Proofs.Ythamkpjiecigjaa
set_option linter.unusedVariables false
set_option linter.unusedSimpArgs false
open Go.RowKit
namespace tw
namespace FxTwccR
set_option maxRecDepth 100000
theorem el70 : Elt Try.prog 70 79 2 16 (.agg #[.int .u16 0, .int .i64 0]) := ⟨Try.underlying70, by kernel_rfl, rfl, by decide, by simp [Value.cells, Value.oneCell']⟩
theorem fo72_0 : Program.fieldOff Try.prog 72 0 = some 0 := by kernel_rfl
theorem fo79_0 : Program.fieldOff Try.prog 79 0 = some 0 := by kernel_rfl
theorem pl72 : Program.places Try.prog 72 = some [(0, 1), (1, 1)] := by kernel_rfl
theorem pl79 : Program.places Try.prog 79 = some [(0, 1), (1, 1)] := by kernel_rfl
theorem sc29 : Program.isSc Try.prog 29 = true := by kernel_rfl
theorem sc70 : Program.isSc Try.prog 70 = true := by kernel_rfl
theorem sl70 : Program.slI Try.prog 70 = some 2 := by kernel_rfl
theorem sz70 : (Try.prog.info? 70).map (·.size) = some 1 := by kernel_rfl
theorem sz79 : (Try.prog.info? 79).map (·.size) = some 2 := by kernel_rfl
theorem zc72 : Program.zeroC Try.prog 72 = some #[.slice none 0 0, .int .u8 0] := by kernel_rfl
theorem zc79 : Program.zeroC Try.prog 79 = some #[.int .u16 0, .int .i64 0] := by kernel_rfl
theorem zs79 : ((Try.prog.info? 79).bind fun i => i.zero.map fun z => (i.size, z.cells.size)) = some (2, 2) := by kernel_rfl
end FxTwccR
open FxTwccR
def FD (l : List AR) (q : UInt16) : Option Nat → Prop
  | none => fa l q = none
  | some k => k < l.length ∧ fa l q = l[k]?
def iv (r : Option Nat) : Int := r.elim (-1) fun k => (k : Int)
set_option maxHeartbeats 1000000 in
--REG (*rostrum/rostrumref19.Recorder).find : _ _ ⟨r{d}, rfl, hr{d}, rfl⟩ => (tw.find_fn _ _ _ _ _ _ _)
theorem find_fn (rb cap : Nat) (a : Option Addr) (cnt : UInt8) (l : List AR) (q : UInt16) (L : List SA) :
    Fn Try.prog 22 [pt rb 0, v16 q] (SA.blk rb #[.slice a l.length cap, v8 cnt] 72 :: SA.owns 79 2 (.slice a l.length cap) l.length (Dat.cs l) :: L)
      (fun v L' => ∃ r, v = vI (iv r) ∧ FD l q r ∧ L' = SA.blk rb #[.slice a l.length cap, v8 cnt] 72 :: SA.owns 79 2 (.slice a l.length cap) l.length (Dat.cs l) :: L) := by
  refine Fn.of (N := 26) Try.func22 rfl rfl ?_
  intro Xh
  refine TC.seq ?_
  refine TC.region ?_
  refine TL.val rfl rfl rfl (Y.assign rfl rfl) ?_
  refine TL.nil ?_
  refine TQ.next ?_
  refine TC.seq ?_
  refine TC.seq ?_
  refine TC.region ?_
  refine TL.val rfl rfl rfl (Y.move rfl rfl) ?_
  refine TL.val rfl rfl rfl (Y.nilCheck rfl rfl) ?_
  refine TL.val rfl rfl rfl (by first | exact Y.fieldAddrJ rfl fo72_0 rfl nqq | exact Y.fieldAddr rfl fo72_0 rfl nqq) ?_
  refine TL.val rfl rfl rfl (Y.load rfl sc70 rfl celD) ?_
  refine TL.val rfl rfl rfl (Y.len rfl Try.underlying70 rfl) ?_
  refine TL.val rfl rfl rfl (Y.move rfl rfl) ?_
  refine TL.nil ?_
  refine TQ.next ?_
  refine TC.block ?_
  refine TC.know (owns_cap (a := a) (n := l.length) (cap := cap) inn) ?_
  rintro ⟨hc1, hc2, hlen⟩
  simp only [maxLen] at hc2
  refine TC.loopF (ι := Nat) [4] (fun k => k ≤ l.length ∧ ∀ y ∈ l.take k, y.1 ≠ q) (fun k => [(11, some (vN k))]) (fun k => []) (fun k => l.length - k) (0) (⟨by omega, fun y hy => by simp at hy⟩) ⟨rfl, trivial⟩ Pulls.nil ?_
  rintro k ⟨hk, hne⟩ F' L' rfl hL'
  simp only [List.cons_append, List.nil_append] at hL'
  subst hL'
  refine TC.seq ?_
  refine TC.region ?_
  refine TL.val rfl rfl rfl (Y.bin rfl rfl rfl (br_ltN)) ?_
  refine TL.nil ?_
  refine TQ.next ?_
  refine TC.seq ?_
  refine TC.cond rfl (fun c0 => ?_) (fun c0 => ?_)
  · try simp only [decide_eq_true_eq, decide_eq_false_iff_not, Bool.not_eq_true', Bool.not_eq_false', Bool.and_eq_true, Bool.or_eq_true, Nat.not_lt, Nat.not_le, beq_iff_eq, bne_iff_ne] at c0
    refine TC.skip ?_
    refine TQ.next ?_
    refine TC.seq ?_
    refine TC.block ?_
    refine TC.seq ?_
    refine TC.region ?_
    refine TL.val rfl rfl rfl (Y.move rfl rfl) ?_
    refine TL.val rfl rfl rfl (Y.assign rfl rfl) ?_
    refine TL.nil ?_
    refine TQ.next ?_
    refine TC.seq ?_
    refine TC.know (owns_some (n := l.length) (a := a) inn (by omega)) ?_
    rintro ⟨g, off, rfl⟩
    obtain ⟨x, hx, -⟩ := getS (l := l) (i := k) (by omega)
    obtain ⟨xq, xa⟩ := x
    refine TC.region ?_
    refine TL.val rfl rfl rfl (Y.move rfl rfl) ?_
    refine TL.val rfl rfl rfl (Y.nilCheck rfl rfl) ?_
    refine TL.val rfl rfl rfl (by first | exact Y.fieldAddrJ rfl fo72_0 rfl nqq | exact Y.fieldAddr rfl fo72_0 rfl nqq) ?_
    refine TL.val rfl rfl rfl (Y.load rfl sc70 rfl celD) ?_
    refine TL.val rfl rfl rfl (Y.move rfl rfl) ?_
    refine TL.val rfl rfl rfl (by first | exact Y.indexSlB rfl sl70 rfl rfl (by omega) nqq | exact Y.indexSl rfl sl70 rfl rfl (by omega) nqq) ?_
    refine TL.val rfl rfl rfl (by first | exact Y.fieldAddrJ rfl fo79_0 rfl nqq | exact Y.fieldAddr rfl fo79_0 rfl nqq) ?_
    refine TL.val rfl rfl rfl (Y.load rfl sc29 rfl cel16) ?_
    refine TL.val rfl rfl rfl (Y.move rfl rfl) ?_
    refine TL.val rfl rfl rfl (Y.bin rfl rfl rfl (br_eq16)) ?_
    refine TL.nil ?_
    refine TQ.next ?_
    refine TC.cond rfl (fun c1 => ?_) (fun c1 => ?_)
    · try simp only [decide_eq_true_eq, decide_eq_false_iff_not, Bool.not_eq_true', Bool.not_eq_false', Bool.and_eq_true, Bool.or_eq_true, Nat.not_lt, Nat.not_le, beq_iff_eq, bne_iff_ne] at c1
      have hfd : FD l q (some k) := ⟨by omega, (fa_at hne hx (by simpa using c1)).trans hx.symm⟩
      refine TC.seq ?_
      refine TC.region ?_
      refine TL.val rfl rfl rfl (Y.move rfl rfl) ?_
      refine TL.val rfl rfl rfl (Y.assign rfl rfl) ?_
      refine TL.nil ?_
      refine TQ.next ?_
      refine TC.ret ?_
      refine TQ.block_ret ?_
      refine TQ.then_ret ?_
      refine TQ.then_ret ?_
      refine TQ.block_ret ?_
      refine TQ.then_ret ?_
      refine TQ.retE (res1 rfl rfl) ((by first | exact ⟨some k, rfl, hfd, rfl⟩ | exact ⟨none, rfl, hfn, rfl⟩)) ?_
      exact ett
    · try simp only [decide_eq_true_eq, decide_eq_false_iff_not, Bool.not_eq_true', Bool.not_eq_false', Bool.and_eq_true, Bool.or_eq_true, Nat.not_lt, Nat.not_le, beq_iff_eq, bne_iff_ne] at c1
      have hnx := ne_next hne hx (by simpa using c1)
      refine TC.skip ?_
      refine TQ.block_normal ?_
      refine TQ.next ?_
      refine TC.region ?_
      refine TL.val rfl rfl rfl (Y.bin rfl rfl rfl (br_addN (n := 1) (by omega))) ?_
      refine TL.val rfl rfl rfl (Y.move rfl rfl) ?_
      refine TL.nil ?_
      refine TQ.loopF (k + 1) (⟨by omega, hnx⟩) (by omega) ⟨rfl, trivial⟩ grw ?_ ?_ ?_
      · kernel_rfl
      · rfl
      · simp only [List.cons_append, List.nil_append]
        exact ett
  · try simp only [decide_eq_true_eq, decide_eq_false_iff_not, Bool.not_eq_true', Bool.not_eq_false', Bool.and_eq_true, Bool.or_eq_true, Nat.not_lt, Nat.not_le, beq_iff_eq, bne_iff_ne] at c0
    obtain rfl : k = l.length := by omega
    rw [List.take_length] at hne
    have hfn : FD l q none := fa_none hne
    refine TC.exit ?_
    refine TQ.then_exit ?_
    refine TQ.then_exit ?_
    refine TQ.block_exit ?_
    refine TQ.next ?_
    refine TC.seq ?_
    refine TC.region ?_
    refine TL.val rfl rfl rfl (Y.assign rfl rfl) ?_
    refine TL.nil ?_
    refine TQ.next ?_
    refine TC.ret ?_
    refine TQ.retE (res1 rfl rfl) ((by first | exact ⟨some k, rfl, hfd, rfl⟩ | exact ⟨none, rfl, hfn, rfl⟩)) ?_
    exact ett
theorem tl_cs (m : List AR) : ([] : List Value) ++ ((Dat.cs m).drop (1 * 2)).take ((m.length - 1) * 2) = Dat.cs (m.drop 1) := by
  rw [rga.cs_drop, List.nil_append, List.take_of_length_le (by rw [List.length_drop, Dat.cs_len]; show m.length * 2 - 1 * 2 ≤ _; omega)]
  rfl
set_option maxHeartbeats 1000000 in
--REG (*rostrum/rostrumref19.Recorder).Note : _ _ ⟨a{d}, c{d}, rfl⟩ => (tw.rNote_fn _ _ _ _ _ {1} {2} (by omega) _)
theorem rNote_fn (rb cap : Nat) (a : Option Addr) (cnt : UInt8) (l : List AR) (q : UInt16) (now : Int) (hl : l.length ≤ 64) (L : List SA) :
    Fn Try.prog 10 [pt rb 0, v16 q, vI now] (SA.blk rb #[.slice a l.length cap, v8 cnt] 72 :: SA.owns 79 2 (.slice a l.length cap) l.length (Dat.cs l) :: L)
      (fun _ L' => ∃ a' c', L' = SA.blk rb #[.slice a' (nt l q now).length c', v8 cnt] 72 :: SA.owns 79 2 (.slice a' (nt l q now).length c') (nt l q now).length (Dat.cs (nt l q now)) :: L) := by
  refine Fn.of (N := 40) Try.func10 rfl rfl ?_
  intro Xh
  refine TC.seq ?_
  refine TC.seq ?_
  refine TC.region ?_
  refine TL.val rfl rfl rfl (Y.move rfl rfl) ?_
  refine TL.val rfl rfl rfl (Y.move rfl rfl) ?_
  refine TL.eff rfl rfl rfl (X.cl rfl Try.func22 rfl (h := (tw.find_fn _ _ _ _ _ _ _))) ?_
  rintro _ _ ⟨r8, rfl, hr8, rfl⟩
  refine TL.val rfl rfl rfl (Y.bin rfl rfl rfl (br_geI (n := 0))) ?_
  refine TL.nil ?_
  refine TQ.next ?_
  refine TC.cond rfl (fun c0 => ?_) (fun c0 => ?_)
  · try simp only [decide_eq_true_eq, decide_eq_false_iff_not, Bool.not_eq_true', Bool.not_eq_false', Bool.and_eq_true, Bool.or_eq_true, Nat.not_lt, Nat.not_le, beq_iff_eq, bne_iff_ne] at c0
    have hn : nt l q now = l := by cases r8 with
      | none => simp [iv] at c0
      | some k => rw [nt, wh, hr8.2, (getS hr8.1).choose_spec.1]; rfl
    refine TC.ret ?_
    refine TQ.then_ret ?_
    refine TQ.retE (res0 rfl) ((by first | exact ⟨a37, c37, by rw [hr]⟩ | exact ⟨a21, c21, by rw [hr]⟩ | exact ⟨a, cap, by rw [hn]⟩)) ?_
    exact ett
  · try simp only [decide_eq_true_eq, decide_eq_false_iff_not, Bool.not_eq_true', Bool.not_eq_false', Bool.and_eq_true, Bool.or_eq_true, Nat.not_lt, Nat.not_le, beq_iff_eq, bne_iff_ne] at c0
    have hn : nt l q now = rga.rput 64 l (q, nw now) := by cases r8 with
      | none => rw [nt, wh_none hr8]; rfl
      | some k => simp [iv] at c0
    refine TC.skip ?_
    refine TQ.next ?_
    refine TC.seq ?_
    refine TC.region ?_
    refine TL.val rfl rfl rfl (Y.move rfl rfl) ?_
    refine TL.val rfl rfl rfl (Y.move rfl rfl) ?_
    refine TL.val rfl rfl rfl (Y.nilCheck rfl rfl) ?_
    refine TL.val rfl rfl rfl (by first | exact Y.fieldAddrJ rfl fo72_0 rfl nqq | exact Y.fieldAddr rfl fo72_0 rfl nqq) ?_
    refine TL.val rfl rfl rfl (Y.load rfl sc70 rfl celD) ?_
    refine TL.val rfl rfl rfl (Y.move rfl rfl) ?_
    refine TL.val rfl rfl rfl (Y.move rfl rfl) ?_
    refine TL.val rfl rfl rfl (Y.maxI (n := 0) rfl rfl rfl) ?_
    refine TL.val rfl rfl rfl (Y.minI (n := 1099511627776) rfl rfl rfl) ?_
    refine TL.val rfl rfl rfl (Y.buildS rfl rfl pl79 zc79 rfl) ?_
    refine TL.as (.agg (Dat.c ((q, nw now) : AR)).toArray) (by (rw [nw_v]; rfl)) ?_
    refine TL.eff rfl rfl rfl (X.litD (sz := 2) ((q, nw now) : AR) rfl Try.underlying70 (by kernel_rfl) rfl rfl (by decide)) ?_
    rintro _ _ ⟨g20, rfl, rfl⟩
    refine TL.eff rfl rfl rfl (X.appendS rfl el70 rfl pul rfl (by first | exact Src.owns Try.underlying70 inn | exact Src.rds Try.underlying70 inn | exact Src.reads (by assumption) Try.underlying70 inn) (by simp only [maxLen]; omega) (by omega)) ?_
    rintro _ _ ⟨a21, c21, rfl, rfl⟩
    rw [show Dat.cs l ++ Dat.c ((q, nw now) : AR) = Dat.cs (l ++ [(q, nw now)]) by rw [Dat.cs_app, Dat.cs_one], show l.length + 1 = (l ++ [(q, nw now)]).length by simp]
    refine TL.val rfl rfl rfl (Y.nilCheck rfl rfl) ?_
    refine TL.val rfl rfl rfl (by first | exact Y.fieldAddrJ rfl fo72_0 rfl nqq | exact Y.fieldAddr rfl fo72_0 rfl nqq) ?_
    refine TL.eff0 rfl rfl (by first | exact X.store rfl sz70 rfl rfl rfl pul lnn (by first | exact setM | rfl) | exact X.storeOwn rfl sz70 rfl (Nat.zero_add _).symm rfl rfl pul lnn (by first | exact setML | rfl) | exact X.storeOwn rfl sz70 rfl rfl rfl rfl pul lnn (by first | exact setML | rfl)) ?_
    rintro _ _ rfl
    rw [show (#[.slice a l.length cap, v8 cnt] : Array Value).setIfInBounds 0 (.slice a21 (l ++ [(q, nw now)]).length c21) = #[.slice a21 (l ++ [(q, nw now)]).length c21, v8 cnt] from rfl]
    have hll : (l ++ [(q, nw now)]).length = l.length + 1 := by simp
    refine TL.nil ?_
    refine TQ.next ?_
    refine TC.seq ?_
    refine TC.region ?_
    refine TL.val rfl rfl rfl (Y.move rfl rfl) ?_
    refine TL.val rfl rfl rfl (Y.nilCheck rfl rfl) ?_
    refine TL.val rfl rfl rfl (by first | exact Y.fieldAddrJ rfl fo72_0 rfl nqq | exact Y.fieldAddr rfl fo72_0 rfl nqq) ?_
    refine TL.val rfl rfl rfl (Y.load rfl sc70 rfl celD) ?_
    refine TL.val rfl rfl rfl (Y.len rfl Try.underlying70 rfl) ?_
    refine TL.val rfl rfl rfl (Y.bin rfl rfl rfl (br_gtN (n := 64))) ?_
    refine TL.nil ?_
    refine TQ.next ?_
    refine TC.cond rfl (fun c1 => ?_) (fun c1 => ?_)
    · try simp only [decide_eq_true_eq, decide_eq_false_iff_not, Bool.not_eq_true', Bool.not_eq_false', Bool.and_eq_true, Bool.or_eq_true, Nat.not_lt, Nat.not_le, beq_iff_eq, bne_iff_ne] at c1
      have hr : nt l q now = (l ++ [(q, nw now)]).drop 1 := by rw [hn, rga.rput, if_neg (by simp at c1; omega)]
      refine TC.region ?_
      refine TL.val rfl rfl rfl (Y.move rfl rfl) ?_
      refine TL.eff rfl rfl rfl (X.litA (bytes := 0) (z := .nilFunc) (cells := []) rfl Try.underlying70 zs79 rfl rfl rfl (by decide) (by decide) (by decide) rfl rfl rfl) ?_
      rintro _ _ ⟨g31, rfl, rfl⟩
      refine TL.val rfl rfl rfl (Y.move rfl rfl) ?_
      refine TL.val rfl rfl rfl (Y.nilCheck rfl rfl) ?_
      refine TL.val rfl rfl rfl (by first | exact Y.fieldAddrJ rfl fo72_0 rfl nqq | exact Y.fieldAddr rfl fo72_0 rfl nqq) ?_
      refine TL.val rfl rfl rfl (Y.load rfl sc70 rfl celD) ?_
      refine TL.val rfl rfl rfl (Y.sliceLo (k := 1) rfl Try.underlying70 sz79 rfl rfl (by omega)) ?_
      refine TL.eff rfl rfl rfl (X.appendS rfl el70 rfl pul rfl (Src.cut Reads.owns Try.underlying70 inn (by omega) (by omega)) (by simp only [maxLen]; omega) (by omega)) ?_
      rintro _ _ ⟨a37, c37, rfl, rfl⟩
      rw [tl_cs (l ++ [(q, nw now)]), show 0 + ((l ++ [(q, nw now)]).length - 1) = ((l ++ [(q, nw now)]).drop 1).length by simp]
      refine TL.val rfl rfl rfl (Y.nilCheck rfl rfl) ?_
      refine TL.val rfl rfl rfl (by first | exact Y.fieldAddrJ rfl fo72_0 rfl nqq | exact Y.fieldAddr rfl fo72_0 rfl nqq) ?_
      refine TL.eff0 rfl rfl (by first | exact X.store rfl sz70 rfl rfl rfl pul lnn (by first | exact setM | rfl) | exact X.storeOwn rfl sz70 rfl (Nat.zero_add _).symm rfl rfl pul lnn (by first | exact setML | rfl) | exact X.storeOwn rfl sz70 rfl rfl rfl rfl pul lnn (by first | exact setML | rfl)) ?_
      rintro _ _ rfl
      rw [show (#[.slice a21 (l ++ [(q, nw now)]).length c21, v8 cnt] : Array Value).setIfInBounds 0 (.slice a37 ((l ++ [(q, nw now)]).drop 1).length c37) = #[.slice a37 ((l ++ [(q, nw now)]).drop 1).length c37, v8 cnt] from rfl]
      refine TL.nil ?_
      refine TQ.endE (res0 rfl) ((by first | exact ⟨a37, c37, by rw [hr]⟩ | exact ⟨a21, c21, by rw [hr]⟩ | exact ⟨a, cap, by rw [hn]⟩)) ?_
      exact ett
    · try simp only [decide_eq_true_eq, decide_eq_false_iff_not, Bool.not_eq_true', Bool.not_eq_false', Bool.and_eq_true, Bool.or_eq_true, Nat.not_lt, Nat.not_le, beq_iff_eq, bne_iff_ne] at c1
      have hr : nt l q now = l ++ [(q, nw now)] := by rw [hn, rga.rput, if_pos (by simp at c1; omega)]
      refine TC.skip ?_
      refine TQ.endE (res0 rfl) ((by first | exact ⟨a37, c37, by rw [hr]⟩ | exact ⟨a21, c21, by rw [hr]⟩ | exact ⟨a, cap, by rw [hn]⟩)) ?_
      exact ett
--REG rostrum/rostrumref19.NewRecorder : _ _ ⟨r{d}, rfl, rfl⟩ => (tw.rNew_fn _)
theorem rNew_fn (L : List SA) : Fn Try.prog 8 [] L
      (fun v L' => ∃ r, v = pt r 0 ∧ L' = SA.blk r #[.slice none ([] : List AR).length 0, v8 0] 72 :: SA.owns 79 2 (.slice none ([] : List AR).length 0) ([] : List AR).length (Dat.cs ([] : List AR)) :: L) := by
  refine Fn.of (N := 3) Try.func8 rfl rfl ?_
  intro Xh
  refine TC.to (Ent.nilOwn 79 2) ?_
  refine TC.seq ?_
  refine TC.region ?_
  refine TL.val rfl rfl rfl (Y.assign rfl rfl) ?_
  refine TL.nil ?_
  refine TQ.next ?_
  refine TC.seq ?_
  refine TC.region ?_
  refine TL.val rfl rfl rfl (Y.buildS rfl rfl pl72 zc72 rfl) ?_
  refine TL.eff rfl rfl rfl (X.boxA rfl rfl) ?_
  rintro _ _ ⟨b2, rfl, rfl⟩
  refine TL.val rfl rfl rfl (Y.assign rfl rfl) ?_
  refine TL.nil ?_
  refine TQ.next ?_
  refine TC.ret ?_
  refine TQ.retE (res1 rfl rfl) (⟨b2, rfl, rfl⟩) ?_
  exact ett
end tw
end Go.Proofs.Ythamkpjiecigjaa

/- twcc: what a feedback tells; ours. -/
namespace Go.Proofs.Ythamkpjiecigjaa
set_option linter.unusedVariables false
set_option linter.unusedSimpArgs false
open Go.RowKit
namespace tw
namespace FxTwccF
set_option maxRecDepth 100000
theorem ag40 : Program.aggN Try.prog 40 = some 16 := by kernel_rfl
theorem el37 : Elt Try.prog 37 3 1 8 (.int .i64 0) := ⟨Try.underlying37, by kernel_rfl, rfl, by decide, by simp [Value.cells, Value.oneCell']⟩
theorem fo40_11 : Program.fieldOff Try.prog 40 11 = some 11 := by kernel_rfl
theorem fo40_12 : Program.fieldOff Try.prog 40 12 = some 12 := by kernel_rfl
theorem fo40_14 : Program.fieldOff Try.prog 40 14 = some 14 := by kernel_rfl
theorem fo67_0 : Program.fieldOff Try.prog 67 0 = some 0 := by kernel_rfl
theorem fo67_1 : Program.fieldOff Try.prog 67 1 = some 1 := by kernel_rfl
theorem fo69_0 : Program.fieldOff Try.prog 69 0 = some 0 := by kernel_rfl
theorem fo69_1 : Program.fieldOff Try.prog 69 1 = some 1 := by kernel_rfl
theorem pl40 : Program.places Try.prog 40 = some [(0, 1), (1, 1), (2, 1), (3, 1), (4, 1), (5, 1), (6, 1), (7, 1), (8, 1), (9, 1), (10, 1), (11, 1), (12, 1), (13, 1), (14, 1), (15, 1)] := by kernel_rfl
theorem sc2 : Program.isSc Try.prog 2 = true := by kernel_rfl
theorem sc29 : Program.isSc Try.prog 29 = true := by kernel_rfl
theorem sc3 : Program.isSc Try.prog 3 = true := by kernel_rfl
theorem sc37 : Program.isSc Try.prog 37 = true := by kernel_rfl
theorem sc5 : Program.isSc Try.prog 5 = true := by kernel_rfl
theorem sc64 : Program.isSc Try.prog 64 = true := by kernel_rfl
theorem sz2 : (Try.prog.info? 2).map (·.size) = some 1 := by kernel_rfl
theorem sz23 : (Try.prog.info? 23).map (·.size) = some 1 := by kernel_rfl
theorem sz29 : (Try.prog.info? 29).map (·.size) = some 1 := by kernel_rfl
theorem sz3 : (Try.prog.info? 3).map (·.size) = some 1 := by kernel_rfl
theorem sz37 : (Try.prog.info? 37).map (·.size) = some 1 := by kernel_rfl
theorem sz40 : (Try.prog.info? 40).map (·.size) = some 16 := by kernel_rfl
theorem sz5 : (Try.prog.info? 5).map (·.size) = some 1 := by kernel_rfl
theorem sz64 : (Try.prog.info? 64).map (·.size) = some 1 := by kernel_rfl
theorem sz67 : (Try.prog.info? 67).map (·.size) = some 2 := by kernel_rfl
theorem zc2 : Program.zeroC Try.prog 2 = some #[.int .i64 0] := by kernel_rfl
theorem zc3 : Program.zeroC Try.prog 3 = some #[.int .i64 0] := by kernel_rfl
theorem zc40 : Program.zeroC Try.prog 40 = some #[.int .i64 0, .int .u32 0, .int .u32 0, .int .u64 0, .int .u32 0, .int .u32 0, .int .u32 0, .slice none 0 0, .string .empty, .slice none 0 0, .slice none 0 0, .int .u16 0, .int .u32 0, .int .u8 0, .slice none 0 0, .slice none 0 0] := by kernel_rfl
theorem zc67 : Program.zeroC Try.prog 67 = some #[.int .u16 0, .int .i64 0] := by kernel_rfl
end FxTwccF
open FxTwccF
def PK (kind : Nat) (s m : UInt32) (b : UInt16) (r : UInt32) (c : UInt8) (arr : Value) : Array Value :=
  #[vN kind, v32 s, v32 m, v64 0, v32 0, v32 0, v32 0, .slice none 0 0, .string .empty, .slice none 0 0, .slice none 0 0, v16 b, v32 r, v8 c, arr, .slice none 0 0]
theorem PK_b {k : Nat} {s m r : UInt32} {b b' : UInt16} {c : UInt8} {arr : Value} : (PK k s m b r c arr).setIfInBounds 11 (v16 b') = PK k s m b' r c arr := rfl
theorem PK_r {k : Nat} {s m r r' : UInt32} {b : UInt16} {c : UInt8} {arr : Value} : (PK k s m b r c arr).setIfInBounds 12 (v32 r') = PK k s m b r' c arr := rfl
theorem PK_a {k : Nat} {s m r : UInt32} {b : UInt16} {c : UInt8} {arr arr' : Value} : (PK k s m b r c arr).setIfInBounds 14 arr' = PK k s m b r c arr' := rfl
/-- how far the recorded numbers reach -/
def farS (b : UInt16) (f : Nat) (x : AR) : Nat := if r1.far16 b x.1 < 128 then max f (r1.far16 b x.1).toNat else f
def farN (l : List AR) (b : UInt16) : Nat := l.foldl (farS b) 0
theorem fold_s {α β : Type} {f : β → α → β} {z : β} {l : List α} {i : Nat} {x : α} (hx : l[i]? = some x) : (l.take (i + 1)).foldl f z = f ((l.take i).foldl f z) x := by
  rw [List.take_add_one, hx, List.foldl_append]; rfl
theorem farN_lt (b : UInt16) : ∀ (l : List AR) (f : Nat), f < 128 → l.foldl (farS b) f < 128
  | [], _, h => h
  | x :: l, f, h => farN_lt b l _ (by unfold farS; split <;> omega)
/-- one number's entry -/
def cl (at' ahead : Nat) : Int := min (max (4 * ((at' : Int) - ahead)) (-32768)) 32767
def stp (l : List AR) (b : UInt16) (st : List Int × Nat) (d : Nat) : List Int × Nat :=
  if (wh l (b + UInt16.ofNat d)).2 then (st.1 ++ [cl (wh l (b + UInt16.ofNat d)).1 st.2], (wh l (b + UInt16.ofNat d)).1) else (st.1 ++ [65536], st.2)
def arrs (l : List AR) (b : UInt16) (ah n : Nat) : List Int × Nat := (List.range n).foldl (stp l b) ([], ah)
theorem arrs_s (l : List AR) (b : UInt16) (ah n : Nat) : arrs l b ah (n + 1) = stp l b (arrs l b ah n) n := by
  rw [arrs, List.range_succ, List.foldl_append]; rfl
theorem stp_t {l : List AR} {b : UInt16} {st : List Int × Nat} {d : Nat} (h : (wh l (b + UInt16.ofNat d)).2 = true) : stp l b st d = (st.1 ++ [cl (wh l (b + UInt16.ofNat d)).1 st.2], (wh l (b + UInt16.ofNat d)).1) := by rw [stp, if_pos h]
theorem stp_f {l : List AR} {b : UInt16} {st : List Int × Nat} {d : Nat} (h : (wh l (b + UInt16.ofNat d)).2 = false) : stp l b st d = (st.1 ++ [65536], st.2) := by rw [stp, if_neg (by simp [h])]
theorem stp_len (l : List AR) (b : UInt16) (st : List Int × Nat) (d : Nat) : (stp l b st d).1.length = st.1.length + 1 := by unfold stp; split <;> simp
theorem arrs_len (l : List AR) (b : UInt16) (ah : Nat) : ∀ n, (arrs l b ah n).1.length = n
  | 0 => rfl
  | n + 1 => by rw [arrs_s, stp_len, arrs_len]
abbrev Ok (l : List AR) : Prop := ∀ x ∈ l, x.2 ≤ 1099511627776
theorem wh_le {l : List AR} (h : Ok l) (q : UInt16) : (wh l q).1 ≤ 1099511627776 := by
  unfold wh
  split
  · rename_i x hx; exact h x (List.mem_of_find?_eq_some hx)
  · exact Nat.zero_le _
theorem arrs_le {l : List AR} (h : Ok l) (b : UInt16) {ah : Nat} (ha : ah ≤ 1099511627776) : ∀ n, (arrs l b ah n).2 ≤ 1099511627776
  | 0 => ha
  | n + 1 => by
    rw [arrs_s]; unfold stp; split
    · exact wh_le h _
    · exact arrs_le h b ha n
theorem nt_ok {l : List AR} (h : Ok l) (q : UInt16) (now : Int) : Ok (nt l q now) := by
  unfold nt; split
  · exact h
  · have hx : Ok (l ++ [(q, nw now)]) := fun x hx => (List.mem_append.1 hx).elim (h x) fun hx => by
      simp at hx; subst hx; show nw now ≤ _; unfold nw; omega
    unfold rga.rput; split
    · exact hx
    · exact fun x hm => hx x (List.mem_of_mem_drop hm)
theorem nt_len {l : List AR} (h : l.length ≤ 64) (q : UInt16) (now : Int) : (nt l q now).length ≤ 64 := by
  unfold nt; split
  · exact h
  · unfold rga.rput; split <;> simp <;> omega
/-- the reference time -/
def rf (at' : Nat) : UInt32 := UInt32.ofNat (at' / 64) &&& 16777215
def ah0 (at' : Nat) : Nat := at' - at' % 64
def pkOf (s m : UInt32) (c : UInt8) (l : List AR) (arr : Value) : Array Value := match l.head? with
  | none => PK 0 0 0 0 0 0 arr
  | some x => PK 6 s m x.1 (rf x.2) c arr
def al (l : List AR) : List Int := match l.head? with
  | none => []
  | some x => (arrs l x.1 (ah0 x.2) (farN l x.1 + 1)).1
def cn (c : UInt8) (l : List AR) : UInt8 := if l.isEmpty then c else c + 1
theorem al_len (l : List AR) : (al l).length ≤ 128 := by
  unfold al; split
  · exact Nat.zero_le _
  · rename_i x _; rw [arrs_len]; have := farN_lt x.1 l 0 (by omega); unfold farN; omega
theorem far_max (f : Nat) (d : Int) : vI (max (f : Int) d) = vN (max f d.toNat) := by
  show vI _ = vI _; congr 1; omega
set_option maxHeartbeats 2000000 in
--REG (*rostrum/twcc.Recorder).Feedback : _ _ ⟨a{d}, c{d}, g{d}, rfl, rfl⟩ => (tw.Feedback_fn _ _ _ _ {1} {2} (by omega) (by assumption) _)
theorem Feedback_fn (rb g : Nat) (cnt : UInt8) (l : List AR) (s m : UInt32) (hl : l.length ≤ 64) (hok : Ok l) (L : List SA) :
    Fn Try.prog 11 [pt rb 0, v32 s, v32 m] (SA.blk rb #[pt g 0, v8 cnt] 69 :: rga.RG g 64 l :: L)
      (fun v L' => ∃ a cap g', v = .tuple #[.agg (pkOf s m cnt l (.slice a (al l).length cap)), .bool (!l.isEmpty)] ∧
        L' = SA.owns 3 1 (.slice a (al l).length cap) (al l).length ((al l).map vI) :: SA.blk rb #[pt g' 0, v8 (cn cnt l)] 69 :: rga.RG g' 64 ([] : List AR) :: L) := by
  refine Fn.of (N := 116) Try.func11 rfl rfl ?_
  intro Xh
  refine TC.to (Ent.nilOwn 3 1) ?_
  refine TC.seq ?_
  refine TC.region ?_
  refine TL.eff rfl rfl rfl (X.alloc rfl zc40) ?_
  rintro _ _ ⟨b6, rfl, rfl⟩
  refine TL.val rfl rfl rfl (Y.assign rfl rfl) ?_
  refine TL.nil ?_
  refine TQ.next ?_
  refine TC.seq ?_
  refine TC.seq ?_
  refine TC.region ?_
  refine TL.val rfl rfl rfl (Y.move rfl rfl) ?_
  refine TL.val rfl rfl rfl (by first | exact Y.eqNilP rfl Try.underlying25 rfl rfl | exact Y.eqNil0 rfl Try.underlying25 rfl rfl) ?_
  refine TL.val rfl rfl rfl (Y.move rfl rfl) ?_
  refine TL.valG rfl rfl rfl (Y.move rfl rfl) ?_
  refine TL.valG rfl rfl rfl (Y.nilCheck rfl rfl) ?_
  refine TL.valG rfl rfl rfl (by first | exact Y.fieldAddrJ rfl fo69_0 rfl nqq | exact Y.fieldAddr rfl fo69_0 rfl nqq) ?_
  refine TL.valG rfl rfl rfl (Y.load rfl sc64 rfl celD) ?_
  refine TL.effG rfl rfl rfl (X.cl rfl Try.func23 rfl (h := (rga.Len_fn _ _ _ _))) ?_
  rintro _ _ ⟨rfl, rfl⟩
  refine TL.valG rfl rfl rfl (Y.bin rfl rfl rfl (br_eqN (n := 0))) ?_
  refine TL.val rfl rfl rfl (Y.pick_f rfl rfl rfl) ?_
  refine TL.nil ?_
  refine TQ.next ?_
  refine TC.cond rfl (fun c0 => ?_) (fun c0 => ?_)
  · try simp only [decide_eq_true_eq, decide_eq_false_iff_not, Bool.not_eq_true', Bool.not_eq_false', Bool.and_eq_true, Bool.or_eq_true, Nat.not_lt, Nat.not_le, beq_iff_eq, bne_iff_ne] at c0
    obtain rfl : l = [] := List.eq_nil_of_length_eq_zero (by simpa using c0)
    refine TC.seq ?_
    refine TC.region ?_
    refine TL.val rfl rfl rfl (Y.buildS (cells := PK 0 0 0 0 0 0 (.slice none 0 0)) rfl rfl pl40 zc40 (by kernel_rfl)) ?_
    refine TL.eff0 rfl rfl (by first | exact X.storeAll rfl sz40 (by rfl) rfl rfl (allOne (by rfl)) pul (by rfl) | exact X.storeAll rfl sz40 szz rfl rfl (by simp [Value.oneCell']) pul szz | exact X.storeAgg rfl sz40 szz rfl rfl (by simp [Value.oneCell']) pul szz (writeM (by ((try simp only [List.length_set, List.length_map, List.length_append, List.length_replicate]); omega)))) ?_
    rintro _ _ rfl
    refine TL.val rfl rfl rfl (Y.assign rfl rfl) ?_
    refine TL.nil ?_
    refine TQ.next ?_
    refine TC.ret ?_
    refine TQ.then_ret ?_
    refine TQ.retE (resL rfl (Res.agg rfl ag40 (Cels.all inn) (by first | rfl | assumption | omega) (Res.tmp rfl Res.nil))) ((by first | exact ⟨a, c, rg105, by rw [hpk, hal', hne]; rfl, by rw [hal', hcn]⟩ | exact ⟨none, 0, g, rfl, rfl⟩)) ?_
    exact ett
  · try simp only [decide_eq_true_eq, decide_eq_false_iff_not, Bool.not_eq_true', Bool.not_eq_false', Bool.and_eq_true, Bool.or_eq_true, Nat.not_lt, Nat.not_le, beq_iff_eq, bne_iff_ne] at c0
    have hpos : 0 < l.length := by omega
    obtain ⟨⟨bq, ba⟩, hx0, hxm⟩ := getS (l := l) (i := 0) hpos
    have hba : ba ≤ 1099511627776 := hok _ hxm
    have hhd : l.head? = some (bq, ba) := by rw [List.head?_eq_getElem?]; exact hx0
    have hne : (!l.isEmpty) = true := by cases l with
      | nil => simp at hpos
      | cons => rfl
    have hcn : cn cnt l = cnt + 1 := by rw [cn, if_neg (by simpa using hne)]
    have hpk : ∀ arr, pkOf s m cnt l arr = PK 6 s m bq (rf ba) cnt arr := fun arr => by rw [pkOf, hhd]
    have hal : al l = (arrs l bq (ah0 ba) (farN l bq + 1)).1 := by rw [al, hhd]
    have hfl : farN l bq < 128 := farN_lt bq l 0 (by omega)
    refine TC.skip ?_
    refine TQ.next ?_
    refine TC.seq ?_
    refine TC.region ?_
    refine TL.val rfl rfl rfl (Y.move rfl rfl) ?_
    refine TL.val rfl rfl rfl (Y.move rfl rfl) ?_
    refine TL.val rfl rfl rfl (Y.move rfl rfl) ?_
    refine TL.val rfl rfl rfl (Y.nilCheck rfl rfl) ?_
    refine TL.val rfl rfl rfl (by first | exact Y.fieldAddrJ rfl fo69_1 rfl nqq | exact Y.fieldAddr rfl fo69_1 rfl nqq) ?_
    refine TL.val rfl rfl rfl (Y.load rfl sc5 rfl cel8) ?_
    refine TL.val rfl rfl rfl (Y.buildS (cells := PK 6 s m 0 0 cnt (.slice none 0 0)) rfl rfl pl40 zc40 (by kernel_rfl)) ?_
    refine TL.eff rfl rfl rfl (X.alloc rfl zc40) ?_
    rintro _ _ ⟨b8, rfl, rfl⟩
    refine TL.eff0 rfl rfl (by first | exact X.storeAll rfl sz40 (by rfl) rfl rfl (allOne (by rfl)) pul (by rfl) | exact X.storeAll rfl sz40 szz rfl rfl (by simp [Value.oneCell']) pul szz | exact X.storeAgg rfl sz40 szz rfl rfl (by simp [Value.oneCell']) pul szz (writeM (by ((try simp only [List.length_set, List.length_map, List.length_append, List.length_replicate]); omega)))) ?_
    rintro _ _ rfl
    refine TL.nil ?_
    refine TQ.next ?_
    refine TC.seq ?_
    refine TC.region ?_
    refine TL.eff rfl rfl rfl (X.alloc rfl zc3) ?_
    rintro _ _ ⟨b9, rfl, rfl⟩
    refine TL.eff0 rfl rfl (by first | exact X.store rfl sz3 rfl rfl rfl pul lnn (by first | exact setM (f := vN) (x := 0) | rfl) | exact X.storeOwn rfl sz3 rfl (Nat.zero_add _).symm rfl rfl pul lnn (by first | exact setML (f := vN) (x := 0) | rfl) | exact X.storeOwn rfl sz3 rfl rfl rfl rfl pul lnn (by first | exact setML (f := vN) (x := 0) | rfl)) ?_
    rintro _ _ rfl
    refine TL.nil ?_
    refine TQ.next ?_
    refine TC.seq ?_
    refine TC.region ?_
    refine TL.eff rfl rfl rfl (X.alloc rfl zc2) ?_
    rintro _ _ ⟨b10, rfl, rfl⟩
    refine TL.eff0 rfl rfl (by first | exact X.store rfl sz2 rfl rfl rfl pul lnn (by first | exact setM (f := vN) (x := 0) | rfl) | exact X.storeOwn rfl sz2 rfl (Nat.zero_add _).symm rfl rfl pul lnn (by first | exact setML (f := vN) (x := 0) | rfl) | exact X.storeOwn rfl sz2 rfl rfl rfl rfl pul lnn (by first | exact setML (f := vN) (x := 0) | rfl)) ?_
    rintro _ _ rfl
    refine TL.nil ?_
    refine TQ.next ?_
    refine TC.seq ?_
    refine TC.seq ?_
    refine TC.region ?_
    refine TL.val rfl rfl rfl (Y.move rfl rfl) ?_
    refine TL.val rfl rfl rfl (Y.nilCheck rfl rfl) ?_
    refine TL.val rfl rfl rfl (by first | exact Y.fieldAddrJ rfl fo69_0 rfl nqq | exact Y.fieldAddr rfl fo69_0 rfl nqq) ?_
    refine TL.val rfl rfl rfl (Y.load rfl sc64 rfl celD) ?_
    refine TL.eff rfl rfl rfl (X.cl rfl Try.func24 rfl (h := (rga.All_fn _ _))) ?_
    rintro _ _ ⟨c39, rfl, rfl⟩
    refine TL.nil ?_
    refine TQ.next ?_
    refine TC.block ?_
    refine TC.rangeF (ι := Nat) (ιx := Unit) Try.func32 (by kernel_rfl) (by kernel_rfl) rfl (by kernel_rfl) (rga.All_iter c39 g 64 l rfl (by omega)) (fun _ => rfl) (fun i j => j = i) (fun j => [SA.blk b8 (PK 6 s m (if j = 0 then 0 else bq) (if j = 0 then 0 else rf ba) cnt (.slice none 0 0)) 40, SA.blk b9 #[vN ((l.take j).foldl (farS bq) 0)] 3, SA.blk b10 #[vN (if j = 0 then 0 else ah0 ba)] 2]) _ (fun _ => False) (fun _ => .ret) (fun _ => []) (0) (rfl) (Pulls.cons pul (Pulls.cons pul Pulls.nil)) (Pulls.ent (Pulls.cons pul (Pulls.cons pul (Pulls.cons pul Pulls.nil)))) ?_ ?_ ?_
    · rintro i j hi hI lr rr ZZ F' L' rfl hL'
      simp only [List.cons_append, List.nil_append] at hL'
      subst hL'
      simp only [psF, List.nil_append, List.append_nil, List.cons_append]
      have hI2 := hI.symm
      subst hI2
      obtain ⟨x, hx, hxm'⟩ := getS (l := l) (i := i) hi
      have hfs := fold_s (f := farS bq) (z := 0) hx
      obtain ⟨xq, xa⟩ := x
      have hd : l.getD i Dat.dflt = (xq, xa) := by rw [List.getD_eq_getElem?_getD, hx]; rfl
      rw [hd, show (Dat.c ((xq, xa) : AR)).toArray = #[v16 xq, vN xa] from rfl]
      refine TC.seq ?_
      refine TC.region ?_
      refine TL.val rfl rfl rfl (Y.assign rfl rfl) ?_
      refine TL.nil ?_
      refine TQ.next ?_
      refine TC.region ?_
      refine TL.eff rfl rfl rfl (X.alloc rfl zc67) ?_
      rintro _ _ ⟨b12, rfl, rfl⟩
      refine TL.eff0 rfl rfl (by first | exact X.storeAll rfl sz67 (by rfl) rfl rfl (allOne (by rfl)) pul (by rfl) | exact X.storeAll rfl sz67 szz rfl rfl (by simp [Value.oneCell']) pul szz | exact X.storeAgg rfl sz67 szz rfl rfl (by simp [Value.oneCell']) pul szz (writeM (by ((try simp only [List.length_set, List.length_map, List.length_append, List.length_replicate]); omega)))) ?_
      rintro _ _ rfl
      refine TL.nil ?_
      refine TQ.begin ?_
      refine TC.block ?_
      refine TC.seq ?_
      refine TC.seq ?_
      refine TC.region ?_
      refine TL.val rfl rfl rfl (Y.move rfl rfl) ?_
      refine TL.val rfl rfl rfl (Y.bin rfl rfl rfl (br_eqN (n := 0))) ?_
      refine TL.nil ?_
      refine TQ.next ?_
      refine TC.cond rfl (fun c1 => ?_) (fun c1 => ?_)
      · try simp only [decide_eq_true_eq, decide_eq_false_iff_not, Bool.not_eq_true', Bool.not_eq_false', Bool.and_eq_true, Bool.or_eq_true, Nat.not_lt, Nat.not_le, beq_iff_eq, bne_iff_ne] at c1
        rw [if_pos c1, if_pos c1, if_pos c1]
        obtain ⟨e1, e2⟩ : bq = xq ∧ ba = xa := by have e := hx; rw [c1, hx0] at e; simpa using e
        subst e1; subst e2
        obtain ⟨xq, hxq⟩ : ∃ y : UInt16, y = bq := ⟨_, rfl⟩
        refine TC.seq ?_
        refine TC.draws 10 [SA.blk b12 #[v16 bq, vN ba] 67] (by kernel_rfl) (by kernel_rfl) hld ?_
        refine TA.tk 0 rfl rfl (by first | exact Y.fieldAddrJ rfl fo67_0 rfl nqq | exact Y.fieldAddr rfl fo67_0 rfl nqq) ?_
        refine TA.tk 1 rfl rfl (Y.load rfl sc29 rfl cel16) ?_
        refine TA.as (v16 bq) (by rfl) ?_
        refine TA.tk 2 rfl rfl (by first | exact Y.fieldAddrJ rfl fo67_1 rfl nqq | exact Y.fieldAddr rfl fo67_1 rfl nqq) ?_
        refine TA.tk 3 rfl rfl (Y.load rfl sc2 rfl celN) ?_
        refine TA.as (vN ba) (by rfl) ?_
        refine TA.tk 4 rfl rfl (Y.bin rfl rfl rfl (br_quoN (n := 64) (by omega) (by omega))) ?_
        refine TA.tk 5 rfl rfl (Y.conv rfl Try.underlying2 Try.underlying23 rfl (cv_N_32)) ?_
        refine TA.tk 6 rfl rfl (Y.bin rfl rfl rfl (br_and32 (y := 16777215))) ?_
        refine TA.tk 7 rfl rfl (by first | exact Y.fieldAddrJ rfl fo40_11 rfl nqq | exact Y.fieldAddr rfl fo40_11 rfl nqq) ?_
        refine TA.one0 8 (by kernel_rfl) rfl rfl rfl (by first | exact X.store rfl sz29 rfl rfl rfl pul lnn (by first | exact setM | rfl) | exact X.storeOwn rfl sz29 rfl (Nat.zero_add _).symm rfl rfl pul lnn (by first | exact setML | rfl) | exact X.storeOwn rfl sz29 rfl rfl rfl rfl pul lnn (by first | exact setML | rfl)) ?_
        rintro _ _ rfl
        rw [PK_b]
        refine ⟨(Or.inr hld), ?_⟩
        refine TA.tk 9 rfl rfl (by first | exact Y.fieldAddrJ rfl fo40_12 rfl nqq | exact Y.fieldAddr rfl fo40_12 rfl nqq) ?_
        refine TA.one0 10 (by kernel_rfl) rfl rfl rfl (by first | exact X.store rfl sz23 rfl rfl rfl pul lnn (by first | exact setM | rfl) | exact X.storeOwn rfl sz23 rfl (Nat.zero_add _).symm rfl rfl pul lnn (by first | exact setML | rfl) | exact X.storeOwn rfl sz23 rfl rfl rfl rfl pul lnn (by first | exact setML | rfl)) ?_
        rintro _ _ rfl
        rw [PK_r, show UInt32.ofNat (ba / 64) &&& 16777215 = rf ba from rfl]
        refine ⟨(Or.inl (by kernel_rfl)), ?_⟩
        refine TA.done (by kernel_rfl) ?_
        refine TQ.next ?_
        refine TC.region ?_
        refine TL.val rfl rfl rfl (by first | exact Y.fieldAddrJ rfl fo67_1 rfl nqq | exact Y.fieldAddr rfl fo67_1 rfl nqq) ?_
        refine TL.val rfl rfl rfl (Y.load rfl sc2 rfl celN) ?_
        refine TL.as (vN ba) (by rfl) ?_
        refine TL.val rfl rfl rfl (by first | exact Y.fieldAddrJ rfl fo67_1 rfl nqq | exact Y.fieldAddr rfl fo67_1 rfl nqq) ?_
        refine TL.val rfl rfl rfl (Y.load rfl sc2 rfl celN) ?_
        refine TL.as (vN ba) (by rfl) ?_
        refine TL.val rfl rfl rfl (Y.bin rfl rfl rfl (br_remN (n := 64) (by omega))) ?_
        refine TL.val rfl rfl rfl (Y.bin rfl rfl rfl (br_subN (by omega) (by omega))) ?_
        refine TL.eff0 rfl rfl (by first | exact X.store rfl sz2 rfl rfl rfl pul lnn (by first | exact setM | rfl) | exact X.storeOwn rfl sz2 rfl (Nat.zero_add _).symm rfl rfl pul lnn (by first | exact setML | rfl) | exact X.storeOwn rfl sz2 rfl rfl rfl rfl pul lnn (by first | exact setML | rfl)) ?_
        rintro _ _ rfl
        rw [show (#[vN 0] : Array Value).setIfInBounds 0 (vN (ba - ba % 64)) = #[vN (ah0 ba)] from rfl]
        refine TL.nil ?_
        refine TQ.next ?_
        refine TC.seq ?_
        refine TC.region ?_
        refine TL.val rfl rfl rfl (by first | exact Y.fieldAddrJ rfl fo40_11 rfl nqq | exact Y.fieldAddr rfl fo40_11 rfl nqq) ?_
        refine TL.val rfl rfl rfl (Y.load rfl sc29 rfl cel16) ?_
        refine TL.as (v16 bq) (by rfl) ?_
        refine TL.val rfl rfl rfl (by first | exact Y.fieldAddrJ rfl fo67_0 rfl nqq | exact Y.fieldAddr rfl fo67_0 rfl nqq) ?_
        refine TL.val rfl rfl rfl (Y.load rfl sc29 rfl cel16) ?_
        refine TL.eff rfl rfl rfl (X.cl rfl Try.func25 rfl (h := (r1.wFar16_fn _ _ _))) ?_
        rintro _ _ ⟨rfl, rfl⟩
        refine TL.val rfl rfl rfl (Y.assign rfl rfl) ?_
        refine TL.nil ?_
        refine TQ.next ?_
        refine TC.seq ?_
        refine TC.region ?_
        refine TL.val rfl rfl rfl (Y.move rfl rfl) ?_
        refine TL.val rfl rfl rfl (Y.bin rfl rfl rfl (br_ltI (n := 128))) ?_
        refine TL.nil ?_
        refine TQ.next ?_
        refine TC.cond rfl (fun c2 => ?_) (fun c2 => ?_)
        · try simp only [decide_eq_true_eq, decide_eq_false_iff_not, Bool.not_eq_true', Bool.not_eq_false', Bool.and_eq_true, Bool.or_eq_true, Nat.not_lt, Nat.not_le, beq_iff_eq, bne_iff_ne] at c2
          have hf : (l.take (i + 1)).foldl (farS bq) 0 = max ((l.take i).foldl (farS bq) 0) (r1.far16 bq xq).toNat := by rw [hfs]; first | exact if_pos c2 | (rw [hxq]; exact if_pos c2)
          try rw [show r1.far16 bq bq = r1.far16 bq xq by rw [hxq]]
          refine TC.region ?_
          refine TL.val rfl rfl rfl (Y.load rfl sc3 rfl celN) ?_
          refine TL.as (vN ((l.take i).foldl (farS bq) 0)) (by rfl) ?_
          refine TL.val rfl rfl rfl (Y.move rfl rfl) ?_
          refine TL.val rfl rfl rfl (Y.maxI rfl rfl rfl) ?_
          refine TL.as (vN (max ((l.take i).foldl (farS bq) 0) (r1.far16 bq xq).toNat)) (by (exact far_max _ _)) ?_
          refine TL.eff0 rfl rfl (by first | exact X.store rfl sz3 rfl rfl rfl pul lnn (by first | exact setM | rfl) | exact X.storeOwn rfl sz3 rfl (Nat.zero_add _).symm rfl rfl pul lnn (by first | exact setML | rfl) | exact X.storeOwn rfl sz3 rfl rfl rfl rfl pul lnn (by first | exact setML | rfl)) ?_
          rintro _ _ rfl
          refine TL.nil ?_
          refine TQ.block_normal ?_
          refine TQ.rd_next (i + 1) (rfl) ?_
          simp only [List.cons_append, List.nil_append]
          exact (by rw [if_neg (Nat.succ_ne_zero i), if_neg (Nat.succ_ne_zero i), if_neg (Nat.succ_ne_zero i), hf]; exact ett)
        · try simp only [decide_eq_true_eq, decide_eq_false_iff_not, Bool.not_eq_true', Bool.not_eq_false', Bool.and_eq_true, Bool.or_eq_true, Nat.not_lt, Nat.not_le, beq_iff_eq, bne_iff_ne] at c2
          have hf : (l.take (i + 1)).foldl (farS bq) 0 = (l.take i).foldl (farS bq) 0 := by rw [hfs]; exact if_neg (by first | (show ¬ r1.far16 bq xq < 128; omega) | (show ¬ r1.far16 bq bq < 128; omega))
          refine TC.skip ?_
          refine TQ.block_normal ?_
          refine TQ.rd_next (i + 1) (rfl) ?_
          simp only [List.cons_append, List.nil_append]
          exact (by rw [if_neg (Nat.succ_ne_zero i), if_neg (Nat.succ_ne_zero i), if_neg (Nat.succ_ne_zero i), hf]; exact ett)
      · try simp only [decide_eq_true_eq, decide_eq_false_iff_not, Bool.not_eq_true', Bool.not_eq_false', Bool.and_eq_true, Bool.or_eq_true, Nat.not_lt, Nat.not_le, beq_iff_eq, bne_iff_ne] at c1
        rw [if_neg c1, if_neg c1, if_neg c1]
        refine TC.skip ?_
        refine TQ.next ?_
        refine TC.seq ?_
        refine TC.region ?_
        refine TL.val rfl rfl rfl (by first | exact Y.fieldAddrJ rfl fo40_11 rfl nqq | exact Y.fieldAddr rfl fo40_11 rfl nqq) ?_
        refine TL.val rfl rfl rfl (Y.load rfl sc29 rfl cel16) ?_
        refine TL.as (v16 bq) (by rfl) ?_
        refine TL.val rfl rfl rfl (by first | exact Y.fieldAddrJ rfl fo67_0 rfl nqq | exact Y.fieldAddr rfl fo67_0 rfl nqq) ?_
        refine TL.val rfl rfl rfl (Y.load rfl sc29 rfl cel16) ?_
        refine TL.eff rfl rfl rfl (X.cl rfl Try.func25 rfl (h := (r1.wFar16_fn _ _ _))) ?_
        rintro _ _ ⟨rfl, rfl⟩
        refine TL.val rfl rfl rfl (Y.assign rfl rfl) ?_
        refine TL.nil ?_
        refine TQ.next ?_
        refine TC.seq ?_
        refine TC.region ?_
        refine TL.val rfl rfl rfl (Y.move rfl rfl) ?_
        refine TL.val rfl rfl rfl (Y.bin rfl rfl rfl (br_ltI (n := 128))) ?_
        refine TL.nil ?_
        refine TQ.next ?_
        refine TC.cond rfl (fun c2 => ?_) (fun c2 => ?_)
        · try simp only [decide_eq_true_eq, decide_eq_false_iff_not, Bool.not_eq_true', Bool.not_eq_false', Bool.and_eq_true, Bool.or_eq_true, Nat.not_lt, Nat.not_le, beq_iff_eq, bne_iff_ne] at c2
          have hf : (l.take (i + 1)).foldl (farS bq) 0 = max ((l.take i).foldl (farS bq) 0) (r1.far16 bq xq).toNat := by rw [hfs]; first | exact if_pos c2 | (rw [hxq]; exact if_pos c2)
          try rw [show r1.far16 bq bq = r1.far16 bq xq by rw [hxq]]
          refine TC.region ?_
          refine TL.val rfl rfl rfl (Y.load rfl sc3 rfl celN) ?_
          refine TL.as (vN ((l.take i).foldl (farS bq) 0)) (by rfl) ?_
          refine TL.val rfl rfl rfl (Y.move rfl rfl) ?_
          refine TL.val rfl rfl rfl (Y.maxI rfl rfl rfl) ?_
          refine TL.as (vN (max ((l.take i).foldl (farS bq) 0) (r1.far16 bq xq).toNat)) (by (exact far_max _ _)) ?_
          refine TL.eff0 rfl rfl (by first | exact X.store rfl sz3 rfl rfl rfl pul lnn (by first | exact setM | rfl) | exact X.storeOwn rfl sz3 rfl (Nat.zero_add _).symm rfl rfl pul lnn (by first | exact setML | rfl) | exact X.storeOwn rfl sz3 rfl rfl rfl rfl pul lnn (by first | exact setML | rfl)) ?_
          rintro _ _ rfl
          refine TL.nil ?_
          refine TQ.block_normal ?_
          refine TQ.rd_next (i + 1) (rfl) ?_
          simp only [List.cons_append, List.nil_append]
          exact (by rw [if_neg (Nat.succ_ne_zero i), if_neg (Nat.succ_ne_zero i), if_neg (Nat.succ_ne_zero i), hf]; exact ett)
        · try simp only [decide_eq_true_eq, decide_eq_false_iff_not, Bool.not_eq_true', Bool.not_eq_false', Bool.and_eq_true, Bool.or_eq_true, Nat.not_lt, Nat.not_le, beq_iff_eq, bne_iff_ne] at c2
          have hf : (l.take (i + 1)).foldl (farS bq) 0 = (l.take i).foldl (farS bq) 0 := by rw [hfs]; exact if_neg (by first | (show ¬ r1.far16 bq xq < 128; omega) | (show ¬ r1.far16 bq bq < 128; omega))
          refine TC.skip ?_
          refine TQ.block_normal ?_
          refine TQ.rd_next (i + 1) (rfl) ?_
          simp only [List.cons_append, List.nil_append]
          exact (by rw [if_neg (Nat.succ_ne_zero i), if_neg (Nat.succ_ne_zero i), if_neg (Nat.succ_ne_zero i), hf]; exact ett)
    · rintro j hI L' hL'
      simp only [List.cons_append, List.nil_append] at hL'
      subst hL'
      subst hI
      rw [List.take_length, if_neg (by omega), if_neg (by omega), if_neg (by omega), show l.foldl (farS bq) 0 = farN l bq from rfl]
      refine TQ.block_normal ?_
      refine TQ.next ?_
      refine TC.seq ?_
      refine TC.seq ?_
      refine TC.region ?_
      refine TL.val rfl rfl rfl (Y.load rfl sc3 rfl celN) ?_
      refine TL.as (vN (farN l bq)) (by rfl) ?_
      refine TL.val rfl rfl rfl (Y.bin rfl rfl rfl (br_addN (n := 1) (by omega))) ?_
      refine TL.val rfl rfl rfl (Y.move rfl rfl) ?_
      refine TL.nil ?_
      refine TQ.next ?_
      refine TC.block ?_
      refine TC.loopF (ι := Nat × Option Addr × Nat) [] (fun i => i.1 ≤ farN l bq + 1) (fun i => [(71, some (vN i.1))]) (fun i => [SA.blk b8 (PK 6 s m bq (rf ba) cnt (.slice i.2.1 (arrs l bq (ah0 ba) i.1).1.length i.2.2)) 40, SA.owns 3 1 (.slice i.2.1 (arrs l bq (ah0 ba) i.1).1.length i.2.2) (arrs l bq (ah0 ba) i.1).1.length ((arrs l bq (ah0 ba) i.1).1.map vI), SA.blk b10 #[vN (arrs l bq (ah0 ba) i.1).2] 2]) (fun i => farN l bq + 1 - i.1) ((0, none, 0)) (by omega) ⟨rfl, trivial⟩ (Pulls.cons pul (Pulls.cons pul (Pulls.cons pul Pulls.nil))) ?_
      rintro ⟨k, a, c⟩ hk F' L' rfl hL'
      simp only [List.cons_append, List.nil_append] at hL'
      subst hL'
      simp only at hk ⊢
      obtain ⟨st, hst⟩ : ∃ st, st = arrs l bq (ah0 ba) k := ⟨_, rfl⟩
      rw [← hst]
      have hsl : st.1.length = k := by rw [hst, arrs_len]
      have hs2 : st.2 ≤ 1099511627776 := by rw [hst]; exact arrs_le hok bq (by unfold ah0; omega) k
      have hwl := wh_le hok (bq + UInt16.ofNat k)
      refine TC.seq ?_
      refine TC.region ?_
      refine TL.val rfl rfl rfl (Y.bin rfl rfl rfl (br_ltN)) ?_
      refine TL.nil ?_
      refine TQ.next ?_
      refine TC.seq ?_
      refine TC.cond rfl (fun c3 => ?_) (fun c3 => ?_)
      · try simp only [decide_eq_true_eq, decide_eq_false_iff_not, Bool.not_eq_true', Bool.not_eq_false', Bool.and_eq_true, Bool.or_eq_true, Nat.not_lt, Nat.not_le, beq_iff_eq, bne_iff_ne] at c3
        refine TC.skip ?_
        refine TQ.next ?_
        refine TC.seq ?_
        refine TC.block ?_
        refine TC.seq ?_
        refine TC.region ?_
        refine TL.val rfl rfl rfl (Y.move rfl rfl) ?_
        refine TL.val rfl rfl rfl (Y.assign rfl rfl) ?_
        refine TL.nil ?_
        refine TQ.next ?_
        refine TC.seq ?_
        refine TC.region ?_
        refine TL.val rfl rfl rfl (Y.move rfl rfl) ?_
        refine TL.val rfl rfl rfl (by first | exact Y.fieldAddrJ rfl fo40_11 rfl nqq | exact Y.fieldAddr rfl fo40_11 rfl nqq) ?_
        refine TL.val rfl rfl rfl (Y.load rfl sc29 rfl cel16) ?_
        refine TL.as (v16 bq) (by rfl) ?_
        refine TL.val rfl rfl rfl (Y.move rfl rfl) ?_
        refine TL.val rfl rfl rfl (Y.conv rfl Try.underlying3 Try.underlying29 rfl (cv_N_16)) ?_
        refine TL.val rfl rfl rfl (Y.bin rfl rfl rfl (br_add16)) ?_
        refine TL.eff rfl rfl rfl (X.cl rfl Try.func20 rfl (h := (tw.when_fn _ _ _ _ _ (by omega) _))) ?_
        rintro _ _ ⟨rfl, rfl⟩
        refine TL.val rfl rfl rfl (Y.move rfl rfl) ?_
        refine TL.val rfl rfl rfl (Y.extract rfl rfl rfl) ?_
        refine TL.val rfl rfl rfl (Y.extract rfl rfl rfl) ?_
        refine TL.val rfl rfl rfl (Y.assign rfl rfl) ?_
        refine TL.val rfl rfl rfl (Y.assign rfl rfl) ?_
        refine TL.nil ?_
        refine TQ.next ?_
        refine TC.seq ?_
        refine TC.seq ?_
        refine TC.region ?_
        refine TL.val rfl rfl rfl (Y.move rfl rfl) ?_
        refine TL.val rfl rfl rfl (Y.not rfl rfl) ?_
        refine TL.nil ?_
        refine TQ.next ?_
        refine TC.cond rfl (fun c4 => ?_) (fun c4 => ?_)
        · try simp only [decide_eq_true_eq, decide_eq_false_iff_not, Bool.not_eq_true', Bool.not_eq_false', Bool.and_eq_true, Bool.or_eq_true, Nat.not_lt, Nat.not_le, beq_iff_eq, bne_iff_ne] at c4
          have hnx : arrs l bq (ah0 ba) (k + 1) = (st.1 ++ [65536], st.2) := by rw [arrs_s, ← hst, stp_f c4]
          refine TC.seq ?_
          refine TC.region ?_
          refine TL.val rfl rfl rfl (by first | exact Y.fieldAddrJ rfl fo40_14 rfl nqq | exact Y.fieldAddr rfl fo40_14 rfl nqq) ?_
          refine TL.val rfl rfl rfl (Y.load rfl sc37 rfl celD) ?_
          refine TL.as (.slice a st.1.length c) (by rfl) ?_
          refine TL.eff rfl rfl rfl (X.lit rfl el37 rfl rfl rfl (by decide) rfl) ?_
          rintro _ _ ⟨g88, rfl, rfl⟩
          refine TL.eff rfl rfl rfl (X.appendS rfl el37 rfl pul rfl (by first | exact Src.owns Try.underlying37 inn | exact Src.rds Try.underlying37 inn | exact Src.reads (by assumption) Try.underlying37 inn) (by simp only [maxLen]; omega) (by omega)) ?_
          rintro _ _ ⟨a89, c89, rfl, rfl⟩
          rw [show st.1.map vI ++ [.int .i64 65536] = (st.1 ++ [65536]).map vI by simp, show st.1.length + 1 = (st.1 ++ [(65536 : Int)]).length by simp]
          refine TL.val rfl rfl rfl (by first | exact Y.fieldAddrJ rfl fo40_14 rfl nqq | exact Y.fieldAddr rfl fo40_14 rfl nqq) ?_
          refine TL.eff0 rfl rfl (by first | exact X.store rfl sz37 rfl rfl rfl pul lnn (by first | exact setM | rfl) | exact X.storeOwn rfl sz37 rfl (Nat.zero_add _).symm rfl rfl pul lnn (by first | exact setML | rfl) | exact X.storeOwn rfl sz37 rfl rfl rfl rfl pul lnn (by first | exact setML | rfl)) ?_
          rintro _ _ rfl
          rw [PK_a]
          refine TL.nil ?_
          refine TQ.next ?_
          refine TC.exit ?_
          refine TQ.then_exit ?_
          refine TQ.block_exit ?_
          refine TQ.next ?_
          refine TC.region ?_
          refine TL.val rfl rfl rfl (Y.bin rfl rfl rfl (br_addN (n := 1) (by omega))) ?_
          refine TL.val rfl rfl rfl (Y.move rfl rfl) ?_
          refine TL.nil ?_
          refine TQ.loopF ((by first | exact (k + 1, a89, c89) | exact (k + 1, a100, c100))) (by simp only; omega) (by simp only; omega) ⟨rfl, trivial⟩ grw ?_ ?_ ?_
          · kernel_rfl
          · rfl
          · simp only [List.cons_append, List.nil_append]
            exact (by simp only [hnx]; exact ett)
        · try simp only [decide_eq_true_eq, decide_eq_false_iff_not, Bool.not_eq_true', Bool.not_eq_false', Bool.and_eq_true, Bool.or_eq_true, Nat.not_lt, Nat.not_le, beq_iff_eq, bne_iff_ne] at c4
          have hnx : arrs l bq (ah0 ba) (k + 1) = (st.1 ++ [cl (wh l (bq + UInt16.ofNat k)).1 st.2], (wh l (bq + UInt16.ofNat k)).1) := by rw [arrs_s, ← hst, stp_t c4]
          refine TC.skip ?_
          refine TQ.next ?_
          refine TC.seq ?_
          refine TC.region ?_
          refine TL.val rfl rfl rfl (by first | exact Y.fieldAddrJ rfl fo40_14 rfl nqq | exact Y.fieldAddr rfl fo40_14 rfl nqq) ?_
          refine TL.val rfl rfl rfl (Y.load rfl sc37 rfl celD) ?_
          refine TL.as (.slice a st.1.length c) (by rfl) ?_
          refine TL.val rfl rfl rfl (Y.move rfl rfl) ?_
          refine TL.val rfl rfl rfl (Y.load rfl sc2 rfl celN) ?_
          refine TL.as (vN st.2) (by rfl) ?_
          refine TL.val rfl rfl rfl (Y.bin rfl rfl rfl (br_subI (by omega) (by omega))) ?_
          refine TL.val rfl rfl rfl (Y.bin rfl rfl rfl (br_mulI (m := 4) (by omega) (by omega))) ?_
          refine TL.val rfl rfl rfl (Y.maxI (n := -32768) rfl rfl rfl) ?_
          refine TL.val rfl rfl rfl (Y.minI (n := 32767) rfl rfl rfl) ?_
          refine TL.as (vI (cl (wh l (bq + UInt16.ofNat k)).1 st.2)) (by rfl) ?_
          refine TL.eff rfl rfl rfl (X.lit rfl el37 rfl rfl rfl (by decide) rfl) ?_
          rintro _ _ ⟨g99, rfl, rfl⟩
          refine TL.eff rfl rfl rfl (X.appendS rfl el37 rfl pul rfl (by first | exact Src.owns Try.underlying37 inn | exact Src.rds Try.underlying37 inn | exact Src.reads (by assumption) Try.underlying37 inn) (by simp only [maxLen]; omega) (by omega)) ?_
          rintro _ _ ⟨a100, c100, rfl, rfl⟩
          rw [show st.1.map vI ++ [vI (cl (wh l (bq + UInt16.ofNat k)).1 st.2)] = (st.1 ++ [cl (wh l (bq + UInt16.ofNat k)).1 st.2]).map vI by simp, show st.1.length + 1 = (st.1 ++ [cl (wh l (bq + UInt16.ofNat k)).1 st.2]).length by simp]
          refine TL.val rfl rfl rfl (by first | exact Y.fieldAddrJ rfl fo40_14 rfl nqq | exact Y.fieldAddr rfl fo40_14 rfl nqq) ?_
          refine TL.eff0 rfl rfl (by first | exact X.store rfl sz37 rfl rfl rfl pul lnn (by first | exact setM | rfl) | exact X.storeOwn rfl sz37 rfl (Nat.zero_add _).symm rfl rfl pul lnn (by first | exact setML | rfl) | exact X.storeOwn rfl sz37 rfl rfl rfl rfl pul lnn (by first | exact setML | rfl)) ?_
          rintro _ _ rfl
          rw [PK_a]
          refine TL.nil ?_
          refine TQ.next ?_
          refine TC.region ?_
          refine TL.val rfl rfl rfl (Y.move rfl rfl) ?_
          refine TL.eff0 rfl rfl (by first | exact X.store rfl sz2 rfl rfl rfl pul lnn (by first | exact setM | rfl) | exact X.storeOwn rfl sz2 rfl (Nat.zero_add _).symm rfl rfl pul lnn (by first | exact setML | rfl) | exact X.storeOwn rfl sz2 rfl rfl rfl rfl pul lnn (by first | exact setML | rfl)) ?_
          rintro _ _ rfl
          refine TL.nil ?_
          refine TQ.block_normal ?_
          refine TQ.next ?_
          refine TC.region ?_
          refine TL.val rfl rfl rfl (Y.bin rfl rfl rfl (br_addN (n := 1) (by omega))) ?_
          refine TL.val rfl rfl rfl (Y.move rfl rfl) ?_
          refine TL.nil ?_
          refine TQ.loopF ((by first | exact (k + 1, a89, c89) | exact (k + 1, a100, c100))) (by simp only; omega) (by simp only; omega) ⟨rfl, trivial⟩ grw ?_ ?_ ?_
          · kernel_rfl
          · rfl
          · simp only [List.cons_append, List.nil_append]
            exact (by simp only [hnx]; exact ett)
      · try simp only [decide_eq_true_eq, decide_eq_false_iff_not, Bool.not_eq_true', Bool.not_eq_false', Bool.and_eq_true, Bool.or_eq_true, Nat.not_lt, Nat.not_le, beq_iff_eq, bne_iff_ne] at c3
        obtain rfl : k = farN l bq + 1 := by omega
        have hal' : al l = st.1 := by rw [hal, hst]
        refine TC.exit ?_
        refine TQ.then_exit ?_
        refine TQ.then_exit ?_
        refine TQ.block_exit ?_
        refine TQ.next ?_
        refine TC.seq ?_
        refine TC.region ?_
        refine TL.val rfl rfl rfl (Y.move rfl rfl) ?_
        refine TL.eff rfl rfl rfl (X.cl rfl Try.func19 rfl (h := (rga.New_fn (α := AR) 64 _))) ?_
        rintro _ _ ⟨rg105, rfl, rfl⟩
        rw [show max 64 1 = 64 from rfl]
        refine TL.val rfl rfl rfl (Y.nilCheck rfl rfl) ?_
        refine TL.val rfl rfl rfl (by first | exact Y.fieldAddrJ rfl fo69_0 rfl nqq | exact Y.fieldAddr rfl fo69_0 rfl nqq) ?_
        refine TL.eff0 rfl rfl (by first | exact X.store rfl sz64 rfl rfl rfl pul lnn (by first | exact setM | rfl) | exact X.storeOwn rfl sz64 rfl (Nat.zero_add _).symm rfl rfl pul lnn (by first | exact setML | rfl) | exact X.storeOwn rfl sz64 rfl rfl rfl rfl pul lnn (by first | exact setML | rfl)) ?_
        rintro _ _ rfl
        rw [show (#[pt g 0, v8 cnt] : Array Value).setIfInBounds 0 (pt rg105 0) = #[pt rg105 0, v8 cnt] from rfl]
        refine TL.nil ?_
        refine TQ.next ?_
        refine TC.seq ?_
        refine TC.region ?_
        refine TL.val rfl rfl rfl (Y.move rfl rfl) ?_
        refine TL.val rfl rfl rfl (Y.nilCheck rfl rfl) ?_
        refine TL.val rfl rfl rfl (by first | exact Y.fieldAddrJ rfl fo69_1 rfl nqq | exact Y.fieldAddr rfl fo69_1 rfl nqq) ?_
        refine TL.val rfl rfl rfl (Y.load rfl sc5 rfl cel8) ?_
        refine TL.as (v8 cnt) (by rfl) ?_
        refine TL.val rfl rfl rfl (Y.bin rfl rfl rfl (br_add8 (y := 1))) ?_
        refine TL.val rfl rfl rfl (Y.nilCheck rfl rfl) ?_
        refine TL.val rfl rfl rfl (by first | exact Y.fieldAddrJ rfl fo69_1 rfl nqq | exact Y.fieldAddr rfl fo69_1 rfl nqq) ?_
        refine TL.eff0 rfl rfl (by first | exact X.store rfl sz5 rfl rfl rfl pul lnn (by first | exact setM | rfl) | exact X.storeOwn rfl sz5 rfl (Nat.zero_add _).symm rfl rfl pul lnn (by first | exact setML | rfl) | exact X.storeOwn rfl sz5 rfl rfl rfl rfl pul lnn (by first | exact setML | rfl)) ?_
        rintro _ _ rfl
        rw [show (#[pt rg105 0, v8 cnt] : Array Value).setIfInBounds 1 (v8 (cnt + 1)) = #[pt rg105 0, v8 (cnt + 1)] from rfl]
        refine TL.nil ?_
        refine TQ.next ?_
        refine TC.seq ?_
        refine TC.region ?_
        refine TL.val rfl rfl rfl (Y.loadAgg rfl ag40 rfl (Cels.all inn) (by first | rfl | ((try simp only [List.length_map, List.length_set, List.length_replicate]); omega))) ?_
        refine TL.as (.agg (PK 6 s m bq (rf ba) cnt (.slice a st.1.length c))) (by rfl) ?_
        refine TL.eff0 rfl rfl (by first | exact X.storeAll rfl sz40 (by rfl) rfl rfl (allOne (by rfl)) pul (by rfl) | exact X.storeAll rfl sz40 szz rfl rfl (by simp [Value.oneCell']) pul szz | exact X.storeAgg rfl sz40 szz rfl rfl (by simp [Value.oneCell']) pul szz (writeM (by ((try simp only [List.length_set, List.length_map, List.length_append, List.length_replicate]); omega)))) ?_
        rintro _ _ rfl
        refine TL.val rfl rfl rfl (Y.assign rfl rfl) ?_
        refine TL.nil ?_
        refine TQ.next ?_
        refine TC.ret ?_
        refine TQ.retE (resL rfl (Res.agg rfl ag40 (Cels.all inn) (by first | rfl | assumption | omega) (Res.tmp rfl Res.nil))) ((by first | exact ⟨a, c, rg105, by rw [hpk, hal', hne]; rfl, by rw [hal', hcn]⟩ | exact ⟨none, 0, g, rfl, rfl⟩)) ?_
        exact ett
    · exact fun _ hx => hx.elim
end tw
end Go.Proofs.Ythamkpjiecigjaa

/- twcc: the document's feedback. -/
namespace Go.Proofs.Ythamkpjiecigjaa
set_option linter.unusedVariables false
set_option linter.unusedSimpArgs false
open Go.RowKit
namespace tw
namespace FxTwccG
set_option maxRecDepth 100000
theorem ag46 : Program.aggN Try.prog 46 = some 16 := by kernel_rfl
theorem el37 : Elt Try.prog 37 3 1 8 (.int .i64 0) := ⟨Try.underlying37, by kernel_rfl, rfl, by decide, by simp [Value.cells, Value.oneCell']⟩
theorem fo46_14 : Program.fieldOff Try.prog 46 14 = some 14 := by kernel_rfl
theorem fo72_0 : Program.fieldOff Try.prog 72 0 = some 0 := by kernel_rfl
theorem fo72_1 : Program.fieldOff Try.prog 72 1 = some 1 := by kernel_rfl
theorem fo79_0 : Program.fieldOff Try.prog 79 0 = some 0 := by kernel_rfl
theorem fo79_1 : Program.fieldOff Try.prog 79 1 = some 1 := by kernel_rfl
theorem pl46 : Program.places Try.prog 46 = some [(0, 1), (1, 1), (2, 1), (3, 1), (4, 1), (5, 1), (6, 1), (7, 1), (8, 1), (9, 1), (10, 1), (11, 1), (12, 1), (13, 1), (14, 1), (15, 1)] := by kernel_rfl
theorem sc2 : Program.isSc Try.prog 2 = true := by kernel_rfl
theorem sc29 : Program.isSc Try.prog 29 = true := by kernel_rfl
theorem sc37 : Program.isSc Try.prog 37 = true := by kernel_rfl
theorem sc5 : Program.isSc Try.prog 5 = true := by kernel_rfl
theorem sc70 : Program.isSc Try.prog 70 = true := by kernel_rfl
theorem sl70 : Program.slI Try.prog 70 = some 2 := by kernel_rfl
theorem sz37 : (Try.prog.info? 37).map (·.size) = some 1 := by kernel_rfl
theorem sz46 : (Try.prog.info? 46).map (·.size) = some 16 := by kernel_rfl
theorem sz5 : (Try.prog.info? 5).map (·.size) = some 1 := by kernel_rfl
theorem sz70 : (Try.prog.info? 70).map (·.size) = some 1 := by kernel_rfl
theorem sz79 : (Try.prog.info? 79).map (·.size) = some 2 := by kernel_rfl
theorem zc46 : Program.zeroC Try.prog 46 = some #[.int .i64 0, .int .u32 0, .int .u32 0, .int .u64 0, .int .u32 0, .int .u32 0, .int .u32 0, .slice none 0 0, .string .empty, .slice none 0 0, .slice none 0 0, .int .u16 0, .int .u32 0, .int .u8 0, .slice none 0 0, .slice none 0 0] := by kernel_rfl
theorem zc79 : Program.zeroC Try.prog 79 = some #[.int .u16 0, .int .i64 0] := by kernel_rfl
end FxTwccG
open FxTwccG
theorem rf_ref (n : Nat) : v32 (UInt32.ofNat (n / 64 % 16777216)) = v32 (rf n) := by
  have : UInt32.ofNat (n / 64 % 16777216) = rf n := by
    unfold rf
    apply UInt32.toNat_inj.1
    rw [UInt32.toNat_and, UInt32.toNat_ofNat', UInt32.toNat_ofNat', show (16777215 : UInt32).toNat = 2 ^ 24 - 1 from rfl, Nat.and_two_pow_sub_one_eq_mod]
    omega
  rw [this]
set_option maxHeartbeats 2000000 in
--REG (*rostrum/rostrumref19.Recorder).Feedback : _ _ ⟨a{d}, c{d}, la{d}, lc{d}, rfl, rfl⟩ => (tw.rFeedback_fn _ _ _ _ _ {1} {2} (by omega) (by assumption) _)
theorem rFeedback_fn (rb cap : Nat) (a0 : Option Addr) (cnt : UInt8) (l : List AR) (s m : UInt32) (hl : l.length ≤ 64) (hok : Ok l) (L : List SA) :
    Fn Try.prog 12 [pt rb 0, v32 s, v32 m] (SA.blk rb #[.slice a0 l.length cap, v8 cnt] 72 :: SA.owns 79 2 (.slice a0 l.length cap) l.length (Dat.cs l) :: L)
      (fun v L' => ∃ a c a' c', v = .tuple #[.agg (pkOf s m cnt l (.slice a (al l).length c)), .bool (!l.isEmpty)] ∧
        L' = SA.owns 3 1 (.slice a (al l).length c) (al l).length ((al l).map vI) :: SA.blk rb #[.slice a' ([] : List AR).length c', v8 (cn cnt l)] 72 :: SA.owns 79 2 (.slice a' ([] : List AR).length c') ([] : List AR).length (Dat.cs ([] : List AR)) :: L) := by
  refine Fn.of (N := 132) Try.func12 rfl rfl ?_
  intro Xh
  refine TC.to (Ent.nilOwn 3 1) ?_
  refine TC.seq ?_
  refine TC.region ?_
  refine TL.eff rfl rfl rfl (X.alloc rfl zc46) ?_
  rintro _ _ ⟨b6, rfl, rfl⟩
  refine TL.val rfl rfl rfl (Y.assign rfl rfl) ?_
  refine TL.nil ?_
  refine TQ.next ?_
  refine TC.seq ?_
  refine TC.seq ?_
  refine TC.region ?_
  refine TL.val rfl rfl rfl (Y.move rfl rfl) ?_
  refine TL.val rfl rfl rfl (Y.nilCheck rfl rfl) ?_
  refine TL.val rfl rfl rfl (by first | exact Y.fieldAddrJ rfl fo72_0 rfl nqq | exact Y.fieldAddr rfl fo72_0 rfl nqq) ?_
  refine TL.val rfl rfl rfl (Y.load rfl sc70 rfl celD) ?_
  refine TL.val rfl rfl rfl (Y.len rfl Try.underlying70 rfl) ?_
  refine TL.val rfl rfl rfl (Y.bin rfl rfl rfl (br_eqN (n := 0))) ?_
  refine TL.nil ?_
  refine TQ.next ?_
  refine TC.cond rfl (fun c0 => ?_) (fun c0 => ?_)
  · try simp only [decide_eq_true_eq, decide_eq_false_iff_not, Bool.not_eq_true', Bool.not_eq_false', Bool.and_eq_true, Bool.or_eq_true, Nat.not_lt, Nat.not_le, beq_iff_eq, bne_iff_ne] at c0
    obtain rfl : l = [] := List.eq_nil_of_length_eq_zero (by simpa using c0)
    refine TC.seq ?_
    refine TC.region ?_
    refine TL.val rfl rfl rfl (Y.buildS (cells := PK 0 0 0 0 0 0 (.slice none 0 0)) rfl rfl pl46 zc46 (by kernel_rfl)) ?_
    refine TL.eff0 rfl rfl (by first | exact X.storeAll rfl sz46 (by rfl) rfl rfl (allOne (by rfl)) pul (by rfl) | exact X.storeAll rfl sz46 szz rfl rfl (by simp [Value.oneCell']) pul szz | exact X.storeAgg rfl sz46 szz rfl rfl (by simp [Value.oneCell']) pul szz (writeM (by ((try simp only [List.length_set, List.length_map, List.length_append, List.length_replicate]); omega)))) ?_
    rintro _ _ rfl
    refine TL.val rfl rfl rfl (Y.assign rfl rfl) ?_
    refine TL.nil ?_
    refine TQ.next ?_
    refine TC.ret ?_
    refine TQ.then_ret ?_
    refine TQ.retE (resL rfl (Res.agg rfl ag46 (Cels.all inn) (by first | rfl | assumption | omega) (Res.tmp rfl Res.nil))) ((by first | exact ⟨a, c, none, 0, by rw [hpk, hal', hne]; rfl, by (rw [hal', hcn]) <;> rfl⟩ | exact ⟨none, 0, a0, cap, rfl, rfl⟩)) ?_
    exact ett
  · try simp only [decide_eq_true_eq, decide_eq_false_iff_not, Bool.not_eq_true', Bool.not_eq_false', Bool.and_eq_true, Bool.or_eq_true, Nat.not_lt, Nat.not_le, beq_iff_eq, bne_iff_ne] at c0
    have hpos : 0 < l.length := by omega
    obtain ⟨⟨bq, ba⟩, hx0, hxm⟩ := getS (l := l) (i := 0) hpos
    have hba : ba ≤ 1099511627776 := hok _ hxm
    have hhd : l.head? = some (bq, ba) := by rw [List.head?_eq_getElem?]; exact hx0
    have hne : (!l.isEmpty) = true := by cases l with
      | nil => simp at hpos
      | cons => rfl
    have hcn : cn cnt l = cnt + 1 := by rw [cn, if_neg (by simpa using hne)]
    have hpk : ∀ arr, pkOf s m cnt l arr = PK 6 s m bq (rf ba) cnt arr := fun arr => by rw [pkOf, hhd]
    have hal : al l = (arrs l bq (ah0 ba) (farN l bq + 1)).1 := by rw [al, hhd]
    have hfl : farN l bq < 128 := farN_lt bq l 0 (by omega)
    refine TC.know (owns_some (e := 79) (n := l.length) (a := a0) inn (by omega)) ?_
    rintro ⟨g, off, rfl⟩
    refine TC.skip ?_
    refine TQ.next ?_
    refine TC.seq ?_
    refine TC.region ?_
    refine TL.val rfl rfl rfl (Y.move rfl rfl) ?_
    refine TL.val rfl rfl rfl (Y.nilCheck rfl rfl) ?_
    refine TL.val rfl rfl rfl (by first | exact Y.fieldAddrJ rfl fo72_0 rfl nqq | exact Y.fieldAddr rfl fo72_0 rfl nqq) ?_
    refine TL.val rfl rfl rfl (Y.load rfl sc70 rfl celD) ?_
    refine TL.val rfl rfl rfl (by first | exact Y.indexSlB (j := 0) rfl sl70 rfl rfl (by omega) nqq | exact Y.indexSl (j := 0) rfl sl70 rfl rfl (by omega) nqq) ?_
    refine TL.val rfl rfl rfl (Y.loadAgg rfl (by kernel_rfl) rfl (Cels.at (sz := 2) (g := g) (off := off) (i := 0) Reads.owns inn hx0 rfl) rfl) ?_
    refine TL.as (.agg #[v16 bq, vN ba]) (by rfl) ?_
    refine TL.eff rfl rfl rfl (X.alloc rfl zc79) ?_
    rintro _ _ ⟨b8, rfl, rfl⟩
    refine TL.eff0 rfl rfl (by first | exact X.storeAll rfl sz79 (by rfl) rfl rfl (allOne (by rfl)) pul (by rfl) | exact X.storeAll rfl sz79 szz rfl rfl (by simp [Value.oneCell']) pul szz | exact X.storeAgg rfl sz79 szz rfl rfl (by simp [Value.oneCell']) pul szz (writeM (by ((try simp only [List.length_set, List.length_map, List.length_append, List.length_replicate]); omega)))) ?_
    rintro _ _ rfl
    refine TL.nil ?_
    refine TQ.next ?_
    refine TC.seq ?_
    refine TC.region ?_
    refine TL.val rfl rfl rfl (Y.assign rfl rfl) ?_
    refine TL.nil ?_
    refine TQ.next ?_
    refine TC.seq ?_
    refine TC.seq ?_
    refine TC.region ?_
    refine TL.val rfl rfl rfl (Y.move rfl rfl) ?_
    refine TL.val rfl rfl rfl (Y.nilCheck rfl rfl) ?_
    refine TL.val rfl rfl rfl (by first | exact Y.fieldAddrJ rfl fo72_0 rfl nqq | exact Y.fieldAddr rfl fo72_0 rfl nqq) ?_
    refine TL.val rfl rfl rfl (Y.load rfl sc70 rfl celD) ?_
    refine TL.val rfl rfl rfl (Y.len rfl Try.underlying70 rfl) ?_
    refine TL.val rfl rfl rfl (Y.move rfl rfl) ?_
    refine TL.nil ?_
    refine TQ.next ?_
    refine TC.block ?_
    refine TC.loopF (ι := Nat) [] (fun k => k ≤ l.length) (fun k => [(34, some (vN k)), (9, some (vN ((l.take k).foldl (farS bq) 0)))]) (fun k => []) (fun k => l.length - k) (0) (by omega) ⟨rfl, rfl, trivial⟩ Pulls.nil ?_
    rintro k hk F' L' rfl hL'
    simp only [List.cons_append, List.nil_append] at hL'
    subst hL'
    refine TC.seq ?_
    refine TC.region ?_
    refine TL.val rfl rfl rfl (Y.bin rfl rfl rfl (br_ltN)) ?_
    refine TL.nil ?_
    refine TQ.next ?_
    refine TC.seq ?_
    refine TC.cond rfl (fun c1 => ?_) (fun c1 => ?_)
    · try simp only [decide_eq_true_eq, decide_eq_false_iff_not, Bool.not_eq_true', Bool.not_eq_false', Bool.and_eq_true, Bool.or_eq_true, Nat.not_lt, Nat.not_le, beq_iff_eq, bne_iff_ne] at c1
      obtain ⟨x, hx, hxm'⟩ := getS (l := l) (i := k) (by omega)
      have hfs := fold_s (f := farS bq) (z := 0) hx
      obtain ⟨xq, xa⟩ := x
      refine TC.skip ?_
      refine TQ.next ?_
      refine TC.seq ?_
      refine TC.block ?_
      refine TC.seq ?_
      refine TC.region ?_
      refine TL.val rfl rfl rfl (Y.move rfl rfl) ?_
      refine TL.val rfl rfl rfl (Y.assign rfl rfl) ?_
      refine TL.nil ?_
      refine TQ.next ?_
      refine TC.seq ?_
      refine TC.draws 10 _ (by kernel_rfl) (by kernel_rfl) (fun _ h => h) ?_
      refine TA.tp 0 rfl rfl (by first | exact Y.fieldAddrJ rfl fo79_0 rfl nqq | exact Y.fieldAddr rfl fo79_0 rfl nqq) ?_
      refine TA.tk 1 rfl rfl (Y.load rfl sc29 rfl cel16) ?_
      refine TA.as (v16 bq) (by rfl) ?_
      refine TA.tp 2 rfl rfl (Y.move rfl rfl) ?_
      refine TA.tp 3 rfl rfl (Y.nilCheck rfl rfl) ?_
      refine TA.tp 4 rfl rfl (by first | exact Y.fieldAddrJ rfl fo72_0 rfl nqq | exact Y.fieldAddr rfl fo72_0 rfl nqq) ?_
      refine TA.tp 6 rfl rfl (Y.move rfl rfl) ?_
      refine TA.one 5 (by kernel_rfl) rfl rfl rfl rfl (Eff.val (fun _ h => by cases h) (Y.load rfl sc70 rfl celD)) ?_
      rintro _ _ ⟨rfl, rfl⟩
      refine ⟨Or.inr (fun _ h => h), ?_⟩
      refine TA.tp 7 rfl rfl (by first | exact Y.indexSlB rfl sl70 rfl rfl (by omega) nqq | exact Y.indexSl rfl sl70 rfl rfl (by omega) nqq) ?_
      refine TA.tp 8 rfl rfl (by first | exact Y.fieldAddrJ rfl fo79_0 rfl nqq | exact Y.fieldAddr rfl fo79_0 rfl nqq) ?_
      refine TA.tk 9 rfl rfl (Y.load rfl sc29 rfl cel16) ?_
      refine TA.as (v16 xq) (by rfl) ?_
      refine TA.one 10 (by kernel_rfl) rfl rfl rfl rfl (X.cl rfl Try.func26 rfl (h := (r1.Far16_fn _ _ _))) ?_
      rintro _ _ ⟨rfl, rfl⟩
      refine ⟨(Or.inl (by kernel_rfl)), ?_⟩
      refine TA.tp 11 rfl rfl (Y.assign rfl rfl) ?_
      refine TA.done (by kernel_rfl) ?_
      refine TQ.next ?_
      refine TC.seq ?_
      refine TC.region ?_
      refine TL.val rfl rfl rfl (Y.move rfl rfl) ?_
      refine TL.val rfl rfl rfl (Y.bin rfl rfl rfl (br_geI (n := 0))) ?_
      refine TL.val rfl rfl rfl (Y.move rfl rfl) ?_
      refine TL.case (fun g9_2 => ?_) (fun g9_2 => ?_)
      · try simp only [decide_eq_true_eq, decide_eq_false_iff_not, Bool.not_eq_true', Bool.not_eq_false', Nat.not_lt, Nat.not_le, beq_iff_eq, bne_iff_ne] at g9_2
        refine TL.valG rfl rfl rfl (Y.move rfl rfl) ?_
        refine TL.valG rfl rfl rfl (Y.bin rfl rfl rfl (br_ltI (n := 128))) ?_
        refine TL.val rfl rfl rfl (Y.pick_t rfl rfl rfl) ?_
        refine TL.nil ?_
        refine TQ.next ?_
        refine TC.cond rfl (fun c2 => ?_) (fun c2 => ?_)
        · try simp only [decide_eq_true_eq, decide_eq_false_iff_not, Bool.not_eq_true', Bool.not_eq_false', Bool.and_eq_true, Bool.or_eq_true, Nat.not_lt, Nat.not_le, beq_iff_eq, bne_iff_ne] at c2
          have hf : (l.take (k + 1)).foldl (farS bq) 0 = max ((l.take k).foldl (farS bq) 0) (r1.far16 bq xq).toNat := by rw [hfs]; exact if_pos c2
          refine TC.region ?_
          refine TL.val rfl rfl rfl (Y.move rfl rfl) ?_
          refine TL.val rfl rfl rfl (Y.move rfl rfl) ?_
          refine TL.val rfl rfl rfl (Y.maxI rfl rfl rfl) ?_
          refine TL.as (vN (max ((l.take k).foldl (farS bq) 0) (r1.far16 bq xq).toNat)) (by (exact far_max _ _)) ?_
          refine TL.val rfl rfl rfl (Y.assign rfl rfl) ?_
          refine TL.nil ?_
          refine TQ.block_normal ?_
          refine TQ.next ?_
          first
          | rw [← hf]
          | (have hf : (l.take (k + 1)).foldl (farS bq) 0 = (l.take k).foldl (farS bq) 0 := by
               rw [hfs]; show (if r1.far16 bq xq < 128 then max _ (r1.far16 bq xq).toNat else _) = _; split <;> omega
             rw [← hf])
          refine TC.region ?_
          refine TL.val rfl rfl rfl (Y.bin rfl rfl rfl (br_addN (n := 1) (by omega))) ?_
          refine TL.val rfl rfl rfl (Y.move rfl rfl) ?_
          refine TL.nil ?_
          refine TQ.loopF (k + 1) (by omega) (by omega) ⟨rfl, rfl, trivial⟩ grw ?_ ?_ ?_
          · kernel_rfl
          · rfl
          · simp only [List.cons_append, List.nil_append]
            exact ett
        · try simp only [decide_eq_true_eq, decide_eq_false_iff_not, Bool.not_eq_true', Bool.not_eq_false', Bool.and_eq_true, Bool.or_eq_true, Nat.not_lt, Nat.not_le, beq_iff_eq, bne_iff_ne] at c2
          refine TC.skip ?_
          refine TQ.block_normal ?_
          refine TQ.next ?_
          first
          | rw [← hf]
          | (have hf : (l.take (k + 1)).foldl (farS bq) 0 = (l.take k).foldl (farS bq) 0 := by
               rw [hfs]; show (if r1.far16 bq xq < 128 then max _ (r1.far16 bq xq).toNat else _) = _; split <;> omega
             rw [← hf])
          refine TC.region ?_
          refine TL.val rfl rfl rfl (Y.bin rfl rfl rfl (br_addN (n := 1) (by omega))) ?_
          refine TL.val rfl rfl rfl (Y.move rfl rfl) ?_
          refine TL.nil ?_
          refine TQ.loopF (k + 1) (by omega) (by omega) ⟨rfl, rfl, trivial⟩ grw ?_ ?_ ?_
          · kernel_rfl
          · rfl
          · simp only [List.cons_append, List.nil_append]
            exact ett
      · try simp only [decide_eq_true_eq, decide_eq_false_iff_not, Bool.not_eq_true', Bool.not_eq_false', Nat.not_lt, Nat.not_le, beq_iff_eq, bne_iff_ne] at g9_2
        refine TL.not rfl rfl rfl ?_
        refine TL.not rfl rfl rfl ?_
        refine TL.val rfl rfl rfl (Y.pick_f rfl rfl rfl) ?_
        refine TL.nil ?_
        refine TQ.next ?_
        refine TC.cond_f rfl ?_
        refine TC.skip ?_
        refine TQ.block_normal ?_
        refine TQ.next ?_
        first
        | rw [← hf]
        | (have hf : (l.take (k + 1)).foldl (farS bq) 0 = (l.take k).foldl (farS bq) 0 := by
             rw [hfs]; show (if r1.far16 bq xq < 128 then max _ (r1.far16 bq xq).toNat else _) = _; split <;> omega
           rw [← hf])
        refine TC.region ?_
        refine TL.val rfl rfl rfl (Y.bin rfl rfl rfl (br_addN (n := 1) (by omega))) ?_
        refine TL.val rfl rfl rfl (Y.move rfl rfl) ?_
        refine TL.nil ?_
        refine TQ.loopF (k + 1) (by omega) (by omega) ⟨rfl, rfl, trivial⟩ grw ?_ ?_ ?_
        · kernel_rfl
        · rfl
        · simp only [List.cons_append, List.nil_append]
          exact ett
    · try simp only [decide_eq_true_eq, decide_eq_false_iff_not, Bool.not_eq_true', Bool.not_eq_false', Bool.and_eq_true, Bool.or_eq_true, Nat.not_lt, Nat.not_le, beq_iff_eq, bne_iff_ne] at c1
      obtain rfl : k = l.length := by omega
      rw [List.take_length, show l.foldl (farS bq) 0 = farN l bq from rfl]
      refine TC.exit ?_
      refine TQ.then_exit ?_
      refine TQ.then_exit ?_
      refine TQ.block_exit ?_
      refine TQ.next ?_
      refine TC.seq ?_
      refine TC.draws 15 [SA.blk b8 #[v16 bq, vN ba] 79, SA.blk rb #[.slice (some ⟨g, off, none⟩) l.length cap, v8 cnt] 72] (by kernel_rfl) (by kernel_rfl) hld ?_
      refine TA.tk 0 rfl rfl (Y.move rfl rfl) ?_
      refine TA.tk 1 rfl rfl (Y.move rfl rfl) ?_
      refine TA.tk 2 rfl rfl (by first | exact Y.fieldAddrJ rfl fo79_0 rfl nqq | exact Y.fieldAddr rfl fo79_0 rfl nqq) ?_
      refine TA.tk 3 rfl rfl (Y.load rfl sc29 rfl cel16) ?_
      refine TA.as (v16 bq) (by rfl) ?_
      refine TA.tk 4 rfl rfl (by first | exact Y.fieldAddrJ rfl fo79_1 rfl nqq | exact Y.fieldAddr rfl fo79_1 rfl nqq) ?_
      refine TA.tk 5 rfl rfl (Y.load rfl sc2 rfl celN) ?_
      refine TA.as (vN ba) (by rfl) ?_
      refine TA.tk 6 rfl rfl (Y.bin rfl rfl rfl (br_quoN (n := 64) (by omega) (by omega))) ?_
      refine TA.tk 7 rfl rfl (Y.bin rfl rfl rfl (br_remN (n := 16777216) (by omega))) ?_
      refine TA.tk 8 rfl rfl (Y.conv rfl Try.underlying2 Try.underlying23 rfl (cv_N_32)) ?_
      refine TA.as (v32 (rf ba)) (by (exact rf_ref _)) ?_
      refine TA.tk 9 rfl rfl (Y.move rfl rfl) ?_
      refine TA.tk 10 rfl rfl (Y.nilCheck rfl rfl) ?_
      refine TA.tk 11 rfl rfl (by first | exact Y.fieldAddrJ rfl fo72_1 rfl nqq | exact Y.fieldAddr rfl fo72_1 rfl nqq) ?_
      refine TA.tk 12 rfl rfl (Y.load rfl sc5 rfl cel8) ?_
      refine TA.as (v8 cnt) (by rfl) ?_
      refine TA.tk 13 rfl rfl (Y.buildS (cells := PK 6 s m bq (rf ba) cnt (.slice none 0 0)) rfl rfl pl46 zc46 (by kernel_rfl)) ?_
      refine TA.one 14 (by kernel_rfl) rfl rfl rfl rfl (X.alloc rfl zc46) ?_
      rintro _ _ ⟨b12, rfl, rfl⟩
      refine ⟨(Or.inr hld), ?_⟩
      refine TA.one0 15 (by kernel_rfl) rfl rfl rfl (by first | exact X.storeAll rfl sz46 (by rfl) rfl rfl (allOne (by rfl)) pul (by rfl) | exact X.storeAll rfl sz46 szz rfl rfl (by simp [Value.oneCell']) pul szz | exact X.storeAgg rfl sz46 szz rfl rfl (by simp [Value.oneCell']) pul szz (writeM (by ((try simp only [List.length_set, List.length_map, List.length_append, List.length_replicate]); omega)))) ?_
      rintro _ _ rfl
      refine ⟨(Or.inl (by kernel_rfl)), ?_⟩
      refine TA.done (by kernel_rfl) ?_
      refine TQ.next ?_
      refine TC.seq ?_
      refine TC.region ?_
      refine TL.val rfl rfl rfl (by first | exact Y.fieldAddrJ rfl fo79_1 rfl nqq | exact Y.fieldAddr rfl fo79_1 rfl nqq) ?_
      refine TL.val rfl rfl rfl (Y.load rfl sc2 rfl celN) ?_
      refine TL.as (vN ba) (by rfl) ?_
      refine TL.val rfl rfl rfl (Y.bin rfl rfl rfl (br_quoN (n := 64) (by omega) (by omega))) ?_
      refine TL.val rfl rfl rfl (Y.bin rfl rfl rfl (br_mulN (n := 64) (by omega))) ?_
      refine TL.as (vN (ah0 ba)) (by (rw [show ba / 64 * 64 = ah0 ba by unfold ah0; omega])) ?_
      refine TL.val rfl rfl rfl (Y.assign rfl rfl) ?_
      refine TL.nil ?_
      refine TQ.next ?_
      refine TC.seq ?_
      refine TC.seq ?_
      refine TC.region ?_
      refine TL.val rfl rfl rfl (Y.assign rfl rfl) ?_
      refine TL.nil ?_
      refine TQ.next ?_
      refine TC.block ?_
      refine TC.loopF (ι := Nat × Option Addr × Nat) [] (fun i => i.1 ≤ farN l bq + 1) (fun i => [(14, some (vN i.1)), (13, some (vN (arrs l bq (ah0 ba) i.1).2))]) (fun i => [SA.blk b12 (PK 6 s m bq (rf ba) cnt (.slice i.2.1 (arrs l bq (ah0 ba) i.1).1.length i.2.2)) 46, SA.owns 3 1 (.slice i.2.1 (arrs l bq (ah0 ba) i.1).1.length i.2.2) (arrs l bq (ah0 ba) i.1).1.length ((arrs l bq (ah0 ba) i.1).1.map vI)]) (fun i => farN l bq + 1 - i.1) ((0, none, 0)) (by omega) ⟨rfl, rfl, trivial⟩ (Pulls.cons pul (Pulls.cons pul Pulls.nil)) ?_
      rintro ⟨k, a, c⟩ hk F' L' rfl hL'
      simp only [List.cons_append, List.nil_append] at hL'
      subst hL'
      simp only at hk ⊢
      obtain ⟨st, hst⟩ : ∃ st, st = arrs l bq (ah0 ba) k := ⟨_, rfl⟩
      rw [← hst]
      have hsl : st.1.length = k := by rw [hst, arrs_len]
      have hs2 : st.2 ≤ 1099511627776 := by rw [hst]; exact arrs_le hok bq (by unfold ah0; omega) k
      refine TC.seq ?_
      refine TC.seq ?_
      refine TC.region ?_
      refine TL.val rfl rfl rfl (Y.move rfl rfl) ?_
      refine TL.val rfl rfl rfl (Y.move rfl rfl) ?_
      refine TL.val rfl rfl rfl (Y.bin rfl rfl rfl (br_leN)) ?_
      refine TL.nil ?_
      refine TQ.next ?_
      refine TC.cond rfl (fun c3 => ?_) (fun c3 => ?_)
      · try simp only [decide_eq_true_eq, decide_eq_false_iff_not, Bool.not_eq_true', Bool.not_eq_false', Bool.and_eq_true, Bool.or_eq_true, Nat.not_lt, Nat.not_le, beq_iff_eq, bne_iff_ne] at c3
        refine TC.skip ?_
        refine TQ.next ?_
        refine TC.seq ?_
        refine TC.block ?_
        refine TC.seq ?_
        refine TC.region ?_
        refine TL.val rfl rfl rfl (Y.move rfl rfl) ?_
        refine TL.val rfl rfl rfl (by first | exact Y.fieldAddrJ rfl fo79_0 rfl nqq | exact Y.fieldAddr rfl fo79_0 rfl nqq) ?_
        refine TL.val rfl rfl rfl (Y.load rfl sc29 rfl cel16) ?_
        refine TL.as (v16 bq) (by rfl) ?_
        refine TL.val rfl rfl rfl (Y.move rfl rfl) ?_
        refine TL.val rfl rfl rfl (Y.conv rfl Try.underlying3 Try.underlying29 rfl (cv_N_16)) ?_
        refine TL.val rfl rfl rfl (Y.bin rfl rfl rfl (br_add16)) ?_
        refine TL.eff rfl rfl rfl (X.cl rfl Try.func22 rfl (h := (tw.find_fn _ _ _ _ _ _ _))) ?_
        rintro _ _ ⟨r87, rfl, hr87, rfl⟩
        refine TL.val rfl rfl rfl (Y.assign rfl rfl) ?_
        refine TL.nil ?_
        refine TQ.next ?_
        refine TC.seq ?_
        refine TC.seq ?_
        refine TC.region ?_
        refine TL.val rfl rfl rfl (Y.move rfl rfl) ?_
        refine TL.val rfl rfl rfl (Y.bin rfl rfl rfl (br_ltI (n := 0))) ?_
        refine TL.nil ?_
        refine TQ.next ?_
        refine TC.cond rfl (fun c4 => ?_) (fun c4 => ?_)
        · try simp only [decide_eq_true_eq, decide_eq_false_iff_not, Bool.not_eq_true', Bool.not_eq_false', Bool.and_eq_true, Bool.or_eq_true, Nat.not_lt, Nat.not_le, beq_iff_eq, bne_iff_ne] at c4
          have hw : wh l (bq + UInt16.ofNat k) = (0, false) := by cases r87 with
            | none => exact wh_none hr87
            | some j => simp [iv] at c4; omega
          have hnx : arrs l bq (ah0 ba) (k + 1) = (st.1 ++ [65536], st.2) := by rw [arrs_s, ← hst, stp_f (by rw [hw])]
          refine TC.seq ?_
          refine TC.region ?_
          refine TL.val rfl rfl rfl (by first | exact Y.fieldAddrJ rfl fo46_14 rfl nqq | exact Y.fieldAddr rfl fo46_14 rfl nqq) ?_
          refine TL.val rfl rfl rfl (Y.load rfl sc37 rfl celD) ?_
          refine TL.as (.slice a st.1.length c) (by rfl) ?_
          refine TL.eff rfl rfl rfl (X.lit rfl el37 rfl rfl rfl (by decide) rfl) ?_
          rintro _ _ ⟨g92, rfl, rfl⟩
          refine TL.eff rfl rfl rfl (X.appendS rfl el37 rfl pul rfl (by first | exact Src.owns Try.underlying37 inn | exact Src.rds Try.underlying37 inn | exact Src.reads (by assumption) Try.underlying37 inn) (by simp only [maxLen]; omega) (by omega)) ?_
          rintro _ _ ⟨a93, c93, rfl, rfl⟩
          rw [show st.1.map vI ++ [.int .i64 65536] = (st.1 ++ [65536]).map vI by simp, show st.1.length + 1 = (st.1 ++ [(65536 : Int)]).length by simp]
          refine TL.val rfl rfl rfl (by first | exact Y.fieldAddrJ rfl fo46_14 rfl nqq | exact Y.fieldAddr rfl fo46_14 rfl nqq) ?_
          refine TL.eff0 rfl rfl (by first | exact X.store rfl sz37 rfl rfl rfl pul lnn (by first | exact setM | rfl) | exact X.storeOwn rfl sz37 rfl (Nat.zero_add _).symm rfl rfl pul lnn (by first | exact setML | rfl) | exact X.storeOwn rfl sz37 rfl rfl rfl rfl pul lnn (by first | exact setML | rfl)) ?_
          rintro _ _ rfl
          rw [PK_a]
          refine TL.nil ?_
          refine TQ.next ?_
          refine TC.exit ?_
          refine TQ.then_exit ?_
          refine TQ.block_exit ?_
          refine TQ.next ?_
          refine TC.region ?_
          refine TL.val rfl rfl rfl (Y.move rfl rfl) ?_
          refine TL.val rfl rfl rfl (Y.bin rfl rfl rfl (br_addN (n := 1) (by omega))) ?_
          refine TL.val rfl rfl rfl (Y.assign rfl rfl) ?_
          refine TL.nil ?_
          refine TQ.loopF ((by first | exact (k + 1, a93, c93) | exact (k + 1, a111, c111))) (by simp only; omega) (by simp only; omega) ⟨rfl, (by simp only [hnx]; rfl), trivial⟩ grw ?_ ?_ ?_
          · kernel_rfl
          · rfl
          · simp only [List.cons_append, List.nil_append]
            exact (by simp only [hnx]; exact ett)
        · try simp only [decide_eq_true_eq, decide_eq_false_iff_not, Bool.not_eq_true', Bool.not_eq_false', Bool.and_eq_true, Bool.or_eq_true, Nat.not_lt, Nat.not_le, beq_iff_eq, bne_iff_ne] at c4
          obtain ⟨j, rfl⟩ : ∃ j, r87 = some j := by cases r87 with
            | none => simp [iv] at c4
            | some j => exact ⟨j, rfl⟩
          obtain ⟨hj, hfj⟩ : _ ∧ _ := hr87
          obtain ⟨⟨yq, ya⟩, hy, hym⟩ := getS (l := l) (i := j) hj
          have hya : ya ≤ 1099511627776 := hok _ hym
          have hw : wh l (bq + UInt16.ofNat k) = (ya, true) := wh_some (hfj.trans hy)
          rw [show vI (iv (some j)) = vN j from rfl]
          have hnx : arrs l bq (ah0 ba) (k + 1) = (st.1 ++ [cl ya st.2], ya) := by rw [arrs_s, ← hst, stp_t (by rw [hw]), hw]
          refine TC.skip ?_
          refine TQ.next ?_
          refine TC.seq ?_
          refine TC.draws 18 [SA.blk b12 (PK 6 s m bq (rf ba) cnt (.slice a st.1.length c)) 46, SA.blk rb #[.slice (some ⟨g, off, none⟩) l.length cap, v8 cnt] 72, SA.owns 79 2 (.slice (some ⟨g, off, none⟩) l.length cap) l.length (Dat.cs l)] (by kernel_rfl) (by kernel_rfl) hld ?_
          refine TA.tk 0 rfl rfl (by first | exact Y.fieldAddrJ rfl fo46_14 rfl nqq | exact Y.fieldAddr rfl fo46_14 rfl nqq) ?_
          refine TA.tk 1 rfl rfl (Y.load rfl sc37 rfl celD) ?_
          refine TA.as (.slice a st.1.length c) (by rfl) ?_
          refine TA.tk 2 rfl rfl (Y.move rfl rfl) ?_
          refine TA.tk 3 rfl rfl (Y.nilCheck rfl rfl) ?_
          refine TA.tk 4 rfl rfl (by first | exact Y.fieldAddrJ rfl fo72_0 rfl nqq | exact Y.fieldAddr rfl fo72_0 rfl nqq) ?_
          refine TA.tk 5 rfl rfl (Y.load rfl sc70 rfl celD) ?_
          refine TA.tk 6 rfl rfl (Y.move rfl rfl) ?_
          refine TA.tk 7 rfl rfl (by first | exact Y.indexSlB rfl sl70 rfl rfl (by omega) nqq | exact Y.indexSl rfl sl70 rfl rfl (by omega) nqq) ?_
          refine TA.tk 8 rfl rfl (by first | exact Y.fieldAddrJ rfl fo79_1 rfl nqq | exact Y.fieldAddr rfl fo79_1 rfl nqq) ?_
          refine TA.tk 9 rfl rfl (Y.load rfl sc2 rfl celN) ?_
          refine TA.as (vN ya) (by rfl) ?_
          refine TA.tk 10 rfl rfl (Y.move rfl rfl) ?_
          refine TA.tk 11 rfl rfl (Y.bin rfl rfl rfl (br_subI (by omega) (by omega))) ?_
          refine TA.tk 12 rfl rfl (Y.bin rfl rfl rfl (br_mulI (m := 4) (by omega) (by omega))) ?_
          refine TA.tk 13 rfl rfl (Y.maxI (n := -32768) rfl rfl rfl) ?_
          refine TA.tk 14 rfl rfl (Y.minI (n := 32767) rfl rfl rfl) ?_
          refine TA.as (vI (cl ya st.2)) (by rfl) ?_
          refine TA.one 15 (by kernel_rfl) rfl rfl rfl rfl (X.lit rfl el37 rfl rfl rfl (by decide) rfl) ?_
          rintro _ _ ⟨g110, rfl, rfl⟩
          refine ⟨(Or.inr hld), ?_⟩
          refine TA.one 16 (by kernel_rfl) rfl rfl rfl rfl (X.appendS rfl el37 rfl pul rfl (by first | exact Src.owns Try.underlying37 inn | exact Src.rds Try.underlying37 inn | exact Src.reads (by assumption) Try.underlying37 inn) (by simp only [maxLen]; omega) (by omega)) ?_
          rintro _ _ ⟨a111, c111, rfl, rfl⟩
          rw [show st.1.map vI ++ [vI (cl ya st.2)] = (st.1 ++ [cl ya st.2]).map vI by simp, show st.1.length + 1 = (st.1 ++ [cl ya st.2]).length by simp]
          refine ⟨(Or.inr hld), ?_⟩
          refine TA.tk 17 rfl rfl (by first | exact Y.fieldAddrJ rfl fo46_14 rfl nqq | exact Y.fieldAddr rfl fo46_14 rfl nqq) ?_
          refine TA.one0 18 (by kernel_rfl) rfl rfl rfl (by first | exact X.store rfl sz37 rfl rfl rfl pul lnn (by first | exact setM | rfl) | exact X.storeOwn rfl sz37 rfl (Nat.zero_add _).symm rfl rfl pul lnn (by first | exact setML | rfl) | exact X.storeOwn rfl sz37 rfl rfl rfl rfl pul lnn (by first | exact setML | rfl)) ?_
          rintro _ _ rfl
          rw [PK_a]
          refine ⟨(Or.inl (by kernel_rfl)), ?_⟩
          refine TA.done (by kernel_rfl) ?_
          refine TQ.next ?_
          refine TC.region ?_
          refine TL.val rfl rfl rfl (Y.move rfl rfl) ?_
          refine TL.val rfl rfl rfl (Y.nilCheck rfl rfl) ?_
          refine TL.val rfl rfl rfl (by first | exact Y.fieldAddrJ rfl fo72_0 rfl nqq | exact Y.fieldAddr rfl fo72_0 rfl nqq) ?_
          refine TL.val rfl rfl rfl (Y.load rfl sc70 rfl celD) ?_
          refine TL.val rfl rfl rfl (Y.move rfl rfl) ?_
          refine TL.val rfl rfl rfl (by first | exact Y.indexSlB rfl sl70 rfl rfl (by omega) nqq | exact Y.indexSl rfl sl70 rfl rfl (by omega) nqq) ?_
          refine TL.val rfl rfl rfl (by first | exact Y.fieldAddrJ rfl fo79_1 rfl nqq | exact Y.fieldAddr rfl fo79_1 rfl nqq) ?_
          refine TL.val rfl rfl rfl (Y.load rfl sc2 rfl celN) ?_
          refine TL.as (vN ya) (by rfl) ?_
          refine TL.val rfl rfl rfl (Y.assign rfl rfl) ?_
          refine TL.nil ?_
          refine TQ.block_normal ?_
          refine TQ.next ?_
          refine TC.region ?_
          refine TL.val rfl rfl rfl (Y.move rfl rfl) ?_
          refine TL.val rfl rfl rfl (Y.bin rfl rfl rfl (br_addN (n := 1) (by omega))) ?_
          refine TL.val rfl rfl rfl (Y.assign rfl rfl) ?_
          refine TL.nil ?_
          refine TQ.loopF ((by first | exact (k + 1, a93, c93) | exact (k + 1, a111, c111))) (by simp only; omega) (by simp only; omega) ⟨rfl, (by simp only [hnx]; rfl), trivial⟩ grw ?_ ?_ ?_
          · kernel_rfl
          · rfl
          · simp only [List.cons_append, List.nil_append]
            exact (by simp only [hnx]; exact ett)
      · try simp only [decide_eq_true_eq, decide_eq_false_iff_not, Bool.not_eq_true', Bool.not_eq_false', Bool.and_eq_true, Bool.or_eq_true, Nat.not_lt, Nat.not_le, beq_iff_eq, bne_iff_ne] at c3
        obtain rfl : k = farN l bq + 1 := by omega
        have hal' : al l = st.1 := by rw [hal, hst]
        refine TC.to (Ent.nilOwn 79 2) ?_
        refine TC.exit ?_
        refine TQ.then_exit ?_
        refine TQ.then_exit ?_
        refine TQ.block_exit ?_
        refine TQ.next ?_
        refine TC.seq ?_
        refine TC.region ?_
        refine TL.val rfl rfl rfl (Y.move rfl rfl) ?_
        refine TL.val rfl rfl rfl (Y.nilCheck rfl rfl) ?_
        refine TL.val rfl rfl rfl (by first | exact Y.fieldAddrJ rfl fo72_0 rfl nqq | exact Y.fieldAddr rfl fo72_0 rfl nqq) ?_
        refine TL.eff0 rfl rfl (by first | exact X.store rfl sz70 rfl rfl rfl pul lnn (by first | exact setM | rfl) | exact X.storeOwn rfl sz70 rfl (Nat.zero_add _).symm rfl rfl pul lnn (by first | exact setML | rfl) | exact X.storeOwn rfl sz70 rfl rfl rfl rfl pul lnn (by first | exact setML | rfl)) ?_
        rintro _ _ rfl
        rw [show (#[.slice (some ⟨g, off, none⟩) l.length cap, v8 cnt] : Array Value).setIfInBounds 0 (.slice none 0 0) = #[.slice none 0 0, v8 cnt] from rfl]
        refine TL.nil ?_
        refine TQ.next ?_
        refine TC.seq ?_
        refine TC.region ?_
        refine TL.val rfl rfl rfl (Y.move rfl rfl) ?_
        refine TL.val rfl rfl rfl (Y.nilCheck rfl rfl) ?_
        refine TL.val rfl rfl rfl (by first | exact Y.fieldAddrJ rfl fo72_1 rfl nqq | exact Y.fieldAddr rfl fo72_1 rfl nqq) ?_
        refine TL.val rfl rfl rfl (Y.load rfl sc5 rfl cel8) ?_
        refine TL.as (v8 cnt) (by rfl) ?_
        refine TL.val rfl rfl rfl (Y.bin rfl rfl rfl (br_add8 (y := 1))) ?_
        refine TL.val rfl rfl rfl (Y.nilCheck rfl rfl) ?_
        refine TL.val rfl rfl rfl (by first | exact Y.fieldAddrJ rfl fo72_1 rfl nqq | exact Y.fieldAddr rfl fo72_1 rfl nqq) ?_
        refine TL.eff0 rfl rfl (by first | exact X.store rfl sz5 rfl rfl rfl pul lnn (by first | exact setM | rfl) | exact X.storeOwn rfl sz5 rfl (Nat.zero_add _).symm rfl rfl pul lnn (by first | exact setML | rfl) | exact X.storeOwn rfl sz5 rfl rfl rfl rfl pul lnn (by first | exact setML | rfl)) ?_
        rintro _ _ rfl
        rw [show (#[.slice none 0 0, v8 cnt] : Array Value).setIfInBounds 1 (v8 (cnt + 1)) = #[.slice none 0 0, v8 (cnt + 1)] from rfl]
        refine TL.nil ?_
        refine TQ.next ?_
        refine TC.seq ?_
        refine TC.region ?_
        refine TL.val rfl rfl rfl (Y.loadAgg rfl ag46 rfl (Cels.all inn) (by first | rfl | ((try simp only [List.length_map, List.length_set, List.length_replicate]); omega))) ?_
        refine TL.as (.agg (PK 6 s m bq (rf ba) cnt (.slice a st.1.length c))) (by rfl) ?_
        refine TL.eff0 rfl rfl (by first | exact X.storeAll rfl sz46 (by rfl) rfl rfl (allOne (by rfl)) pul (by rfl) | exact X.storeAll rfl sz46 szz rfl rfl (by simp [Value.oneCell']) pul szz | exact X.storeAgg rfl sz46 szz rfl rfl (by simp [Value.oneCell']) pul szz (writeM (by ((try simp only [List.length_set, List.length_map, List.length_append, List.length_replicate]); omega)))) ?_
        rintro _ _ rfl
        refine TL.val rfl rfl rfl (Y.assign rfl rfl) ?_
        refine TL.nil ?_
        refine TQ.next ?_
        refine TC.ret ?_
        refine TQ.retE (resL rfl (Res.agg rfl ag46 (Cels.all inn) (by first | rfl | assumption | omega) (Res.tmp rfl Res.nil))) ((by first | exact ⟨a, c, none, 0, by rw [hpk, hal', hne]; rfl, by (rw [hal', hcn]) <;> rfl⟩ | exact ⟨none, 0, a0, cap, rfl, rfl⟩)) ?_
        exact ett
end tw
end Go.Proofs.Ythamkpjiecigjaa
