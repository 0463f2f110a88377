/- The logic and the walks, in one text with others: part 2 of 6. -/
import Derived.Laws.Cover3
import Derived.Laws.Pointers
import Derived.Laws.StructEq
import Derived.Test.YtpmplnkempcmjaaChecked
import Derived.Test.YtpmplnkempcmjaaPk1
/- Data that is read: lists of structs, slices in slices. No program is named. -/
namespace Go.Proofs.Ytpmplnkempcmjaa
set_option linter.unusedVariables false
set_option linter.unusedSimpArgs false
open Go.ChangeShapes Go.WideShapes Go.ChangeAt Go.RowKit

/-- a slice that is read -/
structure G where
  sz : Nat
  v : Value
  n : Nat
  cells : List Value
/-- data with cells, and with slices that hang from them -/
class Dat (α : Type) where
  sz : Nat
  c : α → List Value
  cs : List α → List Value
  g : α → List G
  dflt : α
  cs_eq : ∀ l, cs l = l.flatMap c
  len : ∀ x, (c x).length = sz
  one : ∀ x, ∀ v ∈ c x, v.oneCell' = true
  pos : 0 < sz
theorem map_flat {α : Type} (f : α → Value) (l : List α) : l.map f = l.flatMap fun x => [f x] := by
  induction l with
  | nil => rfl
  | cons x r ih => simp [ih]
abbrev Dat.scalar {α : Type} (f : α → Value) (d : α) (h1 : ∀ x, (f x).oneCell' = true) : Dat α where
  sz := 1
  c x := [f x]
  cs l := l.map f
  g _ := []
  dflt := d
  cs_eq l := map_flat f l
  len _ := rfl
  one x v hv := by simp at hv; subst hv; exact h1 x
  pos := Nat.one_pos
abbrev vI (n : Int) : Value := .int .i64 n
abbrev vB (b : Bool) : Value := .bool b
abbrev vS (s : ByteArray) : Value := .string s
instance : Dat UInt8 := Dat.scalar v8 0 fun _ => rfl
instance : Dat UInt16 := Dat.scalar v16 0 fun _ => rfl
instance : Dat UInt32 := Dat.scalar v32 0 fun _ => rfl
instance : Dat UInt64 := Dat.scalar v64 0 fun _ => rfl
instance : Dat Int := Dat.scalar vI 0 fun _ => rfl
instance : Dat Nat := Dat.scalar vN 0 fun _ => rfl
instance : Dat Bool := Dat.scalar vB false fun _ => rfl
instance : Dat ByteArray := Dat.scalar vS .empty fun _ => rfl
/-- a slice and what it holds -/
structure Sl (α : Type) where
  a : Option Addr
  cap : Nat
  l : List α
abbrev Sl.v {α : Type} (s : Sl α) : Value := .slice s.a s.l.length s.cap
instance {α : Type} [Dat α] : Dat (Sl α) where
  sz := 1
  c s := [s.v]
  cs l := l.map Sl.v
  g s := ⟨Dat.sz α, s.v, s.l.length, Dat.cs s.l⟩ :: s.l.flatMap Dat.g
  dflt := ⟨none, 0, []⟩
  cs_eq l := map_flat _ l
  len _ := rfl
  one x v hv := by simp at hv; subst hv; rfl
  pos := Nat.one_pos
instance {α β : Type} [Dat α] [Dat β] : Dat (α × β) where
  sz := Dat.sz α + Dat.sz β
  c x := Dat.c x.1 ++ Dat.c x.2
  cs l := l.flatMap fun x => Dat.c x.1 ++ Dat.c x.2
  g x := Dat.g x.1 ++ Dat.g x.2
  dflt := (Dat.dflt, Dat.dflt)
  cs_eq _ := rfl
  len x := by simp [Dat.len]
  one x v hv := by
    rcases List.mem_append.1 hv with h | h
    · exact Dat.one _ _ h
    · exact Dat.one _ _ h
  pos := Nat.add_pos_left Dat.pos _
abbrev Bs := Sl UInt8
def SA.rdss (gs : List G) : SA := ⟨fun w _ R => ∀ q ∈ gs, (q.n ≠ 0 → ∀ k ∈ own q.v, R k) ∧ Rd w q.sz q.v q.n q.cells,
  fun h hg q hq => ⟨(h q hq).1, hg.rd0 (h q hq).2 (fun hn k hk => .inr ((h q hq).1 hn k hk))⟩⟩
def SA.dat {α : Type} [Dat α] (x : α) : SA := SA.rdss (Dat.g x)
theorem flat_get {α : Type} {c : α → List Value} {sz : Nat} (hl : ∀ x, (c x).length = sz) (d : α) : ∀ (l : List α) (i k : Nat), i < l.length → k < sz → (l.flatMap c)[i * sz + k]? = (c (l.getD i d))[k]?
  | [], i, k, hi, _ => by simp at hi
  | x :: l, 0, k, _, hk => by rw [List.flatMap_cons, List.getElem?_append_left (by rw [hl]; omega)]; simp
  | x :: l, i + 1, k, hi, hk => by
    have h1 := hl x
    rw [List.flatMap_cons, List.getElem?_append_right (by rw [h1, Nat.add_mul]; omega), h1, show (i + 1) * sz + k - sz = i * sz + k by rw [Nat.add_mul]; omega]
    rw [flat_get hl d l i k (by simpa using hi) hk]
    simp
theorem flat_len {α : Type} {c : α → List Value} {sz : Nat} (hl : ∀ x, (c x).length = sz) (l : List α) : (l.flatMap c).length = l.length * sz := by
  induction l with
  | nil => simp
  | cons x r ih => simp [hl, ih, Nat.add_mul]; omega
section
variable {α β : Type} [Dat α] [Dat β] {P : Program} {N : Nat} {F : FE} {As L L0 : List SA} {A : SA} {κ : Ctx} {code : Code} {Q : Exit → Act → World → Prop} {v : Value} {o : Oper} {x : Operand}
theorem Dat.cs_app (l m : List α) : Dat.cs (l ++ m) = Dat.cs l ++ Dat.cs m := by simp [Dat.cs_eq]
theorem Dat.cs_one (x : α) : Dat.cs [x] = Dat.c x := by simp [Dat.cs_eq]
theorem Dat.cs_len (l : List α) : (Dat.cs l).length = l.length * Dat.sz α := by rw [Dat.cs_eq]; exact flat_len Dat.len l
theorem Dat.cs_take (l : List α) (k : Nat) : Dat.cs (l.take k) = (Dat.cs l).take (k * Dat.sz α) := by
  rw [Dat.cs_eq, Dat.cs_eq]
  induction l generalizing k with
  | nil => simp
  | cons x r ih =>
    cases k with
    | zero => simp
    | succ k => rw [List.take_succ_cons, List.flatMap_cons, List.flatMap_cons, ih, Nat.add_mul, Nat.one_mul, Nat.add_comm, ← Dat.len x, List.take_length_add_append]
theorem Dat.cs_get {l : List α} {i k : Nat} (d : α) (hi : i < l.length) (hk : k < Dat.sz α) : (Dat.cs l)[i * Dat.sz α + k]? = (Dat.c (l.getD i d))[k]? := by rw [Dat.cs_eq]; exact flat_get Dat.len d l i k hi hk
theorem Reads.dat {s : Sl α} : Reads (SA.dat s) (Dat.sz α) s.v s.l.length (Dat.cs s.l) := fun w O R h => (h ⟨Dat.sz α, s.v, s.l.length, Dat.cs s.l⟩ (by simp [Dat.g])).2
theorem Reads.bytes {s : Bs} : Reads (SA.dat s) 1 (.slice s.a s.l.length s.cap) s.l.length (s.l.map v8) := Reads.dat
theorem Dup.rdss {gs : List G} : Dup (SA.rdss gs) := fun _ _ _ h => h
theorem Dup.dat {x : α} : Dup (SA.dat x) := Dup.rdss
theorem Ent.rdss_sub {gs hs : List G} (h : ∀ q ∈ hs, q ∈ gs) : Ent (SA.rdss gs :: L) (SA.rdss hs :: SA.rdss gs :: L) :=
  (Ent.dup Dup.rdss).trans (Ent.imp fun w O R k => ⟨O, R, fun q hq => k q (h q hq), fun _ h => h, fun _ h => .inr h⟩)
theorem Ent.elem {s : Sl α} {x : α} (hx : x ∈ s.l) : Ent (SA.dat s :: L) (SA.dat x :: SA.dat s :: L) := Ent.rdss_sub fun q hq => List.mem_cons_of_mem _ (List.mem_flatMap.2 ⟨x, hx, hq⟩)
theorem Ent.fst {x : α × β} : Ent (SA.dat x :: L) (SA.dat x.1 :: SA.dat x :: L) := Ent.rdss_sub fun q hq => List.mem_append_left _ hq
theorem Ent.snd {x : α × β} : Ent (SA.dat x :: L) (SA.dat x.2 :: SA.dat x :: L) := Ent.rdss_sub fun q hq => List.mem_append_right _ hq
theorem Ent.rdsOf {s : Sl α} : Ent (SA.dat s :: L) (SA.rds (Dat.sz α) s.v s.l.length (Dat.cs s.l) :: SA.dat s :: L) :=
  (Ent.dup Dup.dat).trans (Ent.imp fun w O R k => ⟨O, R, k ⟨Dat.sz α, s.v, s.l.length, Dat.cs s.l⟩ (by simp [Dat.g]), fun _ h => h, fun _ h => .inr h⟩)
theorem Ent.bytesOf {s : Bs} : Ent (SA.dat s :: L) (SA.rds 1 (.slice s.a s.l.length s.cap) s.l.length (s.l.map v8) :: SA.dat s :: L) := Ent.rdsOf
theorem Ent.rdss0 : Ent L (SA.rdss [] :: L) := fun w O R h => ⟨O, R, ⟨fun _ => False, fun _ => False, O, R, fun x hx => by simp at hx, h, by simp, fun k hk => ⟨hk, by simp⟩, by simp, fun k hk => hk⟩, fun _ h => h, fun _ h => .inr h⟩
/-- two that are read, as one -/
theorem Ent.rdssApp {gs hs : List G} : Ent (SA.rdss gs :: SA.rdss hs :: L) (SA.rdss (gs ++ hs) :: L) := fun w O R h => by
  have h' := SA.Le.assoc' _ _ _ h
  obtain ⟨O1, R1, O2, R2, hA, hL, r⟩ := h'
  obtain ⟨O3, R3, O4, R4, hB, hC, s1, s2, s3, s4⟩ := hA
  refine ⟨O, R, ⟨O1, R1, O2, R2, fun q hq => ?_, hL, r⟩, fun _ h => h, fun _ h => .inr h⟩
  rcases List.mem_append.1 hq with h | h
  · exact ⟨fun hn k hk => s3 k ((hB q h).1 hn k hk), (hB q h).2⟩
  · exact ⟨fun hn k hk => s4 k ((hC q h).1 hn k hk), (hC q h).2⟩
theorem Ent.rdsG {sz n : Nat} {cs : List Value} : Ent (SA.rds sz v n cs :: L) (SA.rdss [⟨sz, v, n, cs⟩] :: L) := Ent.imp fun w O R h => ⟨O, R, fun q hq => by simp at hq; subst hq; exact h, fun _ h => h, fun _ h => .inr h⟩
/-- a slice and what it holds, put together -/
theorem Ent.mkSl {a : Option Addr} {n cap sz : Nat} {l : List α} {cells : List Value} (hn : l.length = n) (hs : Dat.sz α = sz) (hc : Dat.cs l = cells) : Ent (SA.rds sz (.slice a n cap) n cells :: SA.rdss (l.flatMap Dat.g) :: L) (SA.dat (⟨a, cap, l⟩ : Sl α) :: L) := by
  subst hn; subst hs; subst hc
  exact Ent.rdsG.trans Ent.rdssApp
theorem Ent.mkBytes {a : Option Addr} {n cap : Nat} {l : List UInt8} (hn : l.length = n) : Ent (SA.rds 1 (.slice a n cap) n (l.map v8) :: L) (SA.dat (⟨a, cap, l⟩ : Bs) :: L) := by
  subst hn
  have : l.flatMap (Dat.g : UInt8 → List G) = [] := List.flatMap_eq_nil_iff.2 fun _ _ => rfl
  refine Ent.trans (Ent.rdsG) ?_
  rw [show SA.dat (⟨a, cap, l⟩ : Bs) = SA.rdss [⟨1, .slice a l.length cap, l.length, l.map v8⟩] by
    show SA.rdss (⟨1, _, _, _⟩ :: l.flatMap Dat.g) = _
    rw [this]; rfl]
  exact Ent.refl
theorem reads_some {sz n cap : Nat} {a : Option Addr} {cs : List Value} (hA : Reads A sz (.slice a n cap) n cs) (h : In A L) (hn : 0 < n) (hs : 0 < sz) : ∀ w, Holds L w → ∃ g off, a = some ⟨g, off, none⟩ := fun w hw => by
  obtain ⟨O, R, h1⟩ := hw _ h
  obtain ⟨b, c, he, h2, h3, h4, h5⟩ := (hA _ _ _ h1).val
  cases he
  cases a with
  | none => have := (h4 rfl).1; omega
  | some p =>
    have hl := (hA _ _ _ h1).len
    have hpos : 0 < cs.length := by rw [hl]; exact Nat.mul_pos hn hs
    have hc := h5 p rfl 0 cs[0] (by simp [hpos])
    obtain ⟨g, off, spot⟩ := p
    have : spot = none := by
      cases spot with
      | none => rfl
      | some q =>
        simp only [Addr.add, if_pos, World.cell?] at hc
        split at hc <;> simp at hc
    subst this
    exact ⟨g, off, rfl⟩
theorem getS {α : Type} {l : List α} {i : Nat} (h : i < l.length) : ∃ x, l[i]? = some x ∧ x ∈ l := ⟨l[i], by simp [h], List.getElem_mem h⟩
theorem Dat.cs_at {l : List α} {i k : Nat} {x : α} (hx : l[i]? = some x) (hk : k < Dat.sz α) : (Dat.cs l)[i * Dat.sz α + k]? = (Dat.c x)[k]? := by
  obtain ⟨hi, he⟩ := List.getElem?_eq_some_iff.1 hx
  rw [Dat.cs_get x hi hk, List.getD_eq_getElem?_getD, hx]; rfl
/-- a place of an element of a slice of structs -/
theorem Cel.at {g off n cap sz i k : Nat} {l : List α} {x : α} (hA : Reads A sz (.slice (some ⟨g, off, none⟩) n cap) n (Dat.cs l)) (h : In A As) (hx : l[i]? = some x) (hv : (Dat.c x)[k]? = some v) (hs : Dat.sz α = sz := by rfl) : Cel As ⟨g, off + (i * sz + k), none⟩ v := by
  subst hs
  have hk : k < Dat.sz α := by rw [← Dat.len x]; exact (List.getElem?_eq_some_iff.1 hv).1
  have := Cel.reads hA h ((Dat.cs_at hx hk).trans hv)
  rwa [Addr.add_lit] at this
theorem Cel.at0 {g off n cap sz i : Nat} {l : List α} {x : α} (hA : Reads A sz (.slice (some ⟨g, off, none⟩) n cap) n (Dat.cs l)) (h : In A As) (hx : l[i]? = some x) (hv : (Dat.c x)[0]? = some v) (hs : Dat.sz α = sz := by rfl) : Cel As ⟨g, off + i * sz, none⟩ v := by
  have := Cel.at (k := 0) hA h hx hv hs
  rwa [Nat.add_zero] at this
theorem Cels.at {g off n cap sz i : Nat} {l : List α} {x : α} (hA : Reads A sz (.slice (some ⟨g, off, none⟩) n cap) n (Dat.cs l)) (h : In A As) (hx : l[i]? = some x) (hs : Dat.sz α = sz := by rfl) : Cels As ⟨g, off + i * sz, none⟩ (Dat.c x) := fun w hw j u hj => by
  have := Cel.at (k := j) hA h hx hj hs w hw
  rw [Addr.add_lit, Nat.add_assoc]; exact this
theorem Reads.datM {a : Option Addr} {cap : Nat} {l : List α} : Reads (SA.dat (⟨a, cap, l⟩ : Sl α)) (Dat.sz α) (.slice a l.length cap) l.length (Dat.cs l) := Reads.dat (s := ⟨a, cap, l⟩)
theorem Cel.datAt {g off cap sz i k : Nat} {l : List α} {x : α} (h : In (SA.dat (⟨some ⟨g, off, none⟩, cap, l⟩ : Sl α)) As) (hx : l[i]? = some x) (hv : (Dat.c x)[k]? = some v) (hs : Dat.sz α = sz := by rfl) : Cel As ⟨g, off + (i * sz + k), none⟩ v := by
  subst hs; exact Cel.at Reads.datM h hx hv
theorem Cel.datAt0 {g off cap sz i : Nat} {l : List α} {x : α} (h : In (SA.dat (⟨some ⟨g, off, none⟩, cap, l⟩ : Sl α)) As) (hx : l[i]? = some x) (hv : (Dat.c x)[0]? = some v) (hs : Dat.sz α = sz := by rfl) : Cel As ⟨g, off + i * sz, none⟩ v := by
  subst hs; exact Cel.at0 Reads.datM h hx hv
theorem Cel.datAtS {g off cap i : Nat} {l : List α} {x : α} (h : In (SA.dat (⟨some ⟨g, off, none⟩, cap, l⟩ : Sl α)) As) (hx : l[i]? = some x) (hv : (Dat.c x)[0]? = some v) (hs : Dat.sz α = 1 := by rfl) : Cel As ⟨g, off + i, none⟩ v := by
  have := Cel.datAt0 h hx hv hs
  rwa [Nat.mul_one] at this
theorem Cels.datAt {g off cap sz i : Nat} {l : List α} {x : α} (h : In (SA.dat (⟨some ⟨g, off, none⟩, cap, l⟩ : Sl α)) As) (hx : l[i]? = some x) (hs : Dat.sz α = sz := by rfl) : Cels As ⟨g, off + i * sz, none⟩ (Dat.c x) := by
  subst hs; exact Cels.at Reads.datM h hx
theorem dat_some {cap : Nat} {a : Option Addr} {l : List α} (h : In (SA.dat (⟨a, cap, l⟩ : Sl α)) L) (hn : 0 < l.length) : ∀ w, Holds L w → ∃ g off, a = some ⟨g, off, none⟩ := reads_some Reads.datM h hn Dat.pos
theorem dat_cap {cap : Nat} {a : Option Addr} {l : List α} (h : In (SA.dat (⟨a, cap, l⟩ : Sl α)) L) : ∀ w, Holds L w → l.length ≤ cap ∧ cap ≤ 9223372036854775807 ∧ (a = none → l.length = 0) := fun w hw =>
  let ⟨h1, h2, _, h3⟩ := reads_cap Reads.datM h w hw; ⟨h1, by simpa only [maxLen] using h2, h3⟩
/-- a slice more that is read -/
theorem Ent.bsCons {a : Option Addr} {n cap : Nat} {l : List UInt8} {xs : List Bs} (hn : l.length = n) : Ent (SA.rds 1 (.slice a n cap) n (l.map v8) :: SA.rdss (xs.flatMap Dat.g) :: L) (SA.rdss (((⟨a, cap, l⟩ : Bs) :: xs).flatMap Dat.g) :: L) := by
  rw [List.flatMap_cons]
  exact (Ent.mkBytes hn).trans Ent.rdssApp
theorem Ent.bsPull {e n cap : Nat} {a : Option Addr} {l : List UInt8} {cs : List Value} {xs : List Bs} {L1 L2 : List SA} (h1 : Pull (SA.rdss (xs.flatMap Dat.g)) L L1) (h2 : Pull (SA.owns e 1 (.slice a n cap) n cs) L1 L2) (hn : l.length = n) (hc : l.map v8 = cs) : Ent L (SA.rdss (((⟨a, cap, l⟩ : Bs) :: xs).flatMap Dat.g) :: L2) := by
  subst hc
  exact h1.ent.trans ((h2.ent.under _).trans (Ent.swap.trans (Ent.freeze.trans (Ent.bsCons hn))))
theorem Ent.bsPullR {n cap : Nat} {a : Option Addr} {l : List UInt8} {cs : List Value} {xs : List Bs} {L1 L2 : List SA} (h1 : Pull (SA.rdss (xs.flatMap Dat.g)) L L1) (h2 : Pull (SA.rds 1 (.slice a n cap) n cs) L1 L2) (hn : l.length = n) (hc : l.map v8 = cs) : Ent L (SA.rdss (((⟨a, cap, l⟩ : Bs) :: xs).flatMap Dat.g) :: L2) := by
  subst hc
  exact h1.ent.trans ((h2.ent.under _).trans (Ent.swap.trans (Ent.bsCons hn)))
theorem Ent.bsNil : Ent L (SA.rdss (([] : List Bs).flatMap Dat.g) :: L) := Ent.rdss0
/-- a block that is not written any more, read as a slice -/
theorem Ent.rdOfBlk {b T sz n : Nat} {cs : Array Value} {c : List Value} {L1 : List SA} (h1 : Pull (SA.blk b cs T) L L1) (hR : Reads (SA.blk b cs T) sz v n c) (ho : own v = [b]) : Ent L (SA.rds sz v n c :: L1) :=
  h1.ent.trans (Ent.imp fun w O R h => ⟨fun _ => False, O, ⟨fun _ k hk => by rw [ho] at hk; simp at hk; subst hk; exact h.1, hR w O R h⟩, fun _ h => h.elim, fun _ h => .inl h⟩)
theorem Ent.mkJoin {e g n : Nat} {xs : List Bs} {cells : List Value} {L1 L2 : List SA} (h1 : Pull (SA.rdss (xs.flatMap Dat.g)) L L1) (h2 : Pull (SA.owns e 1 (.slice (some ⟨g, 0, none⟩) n n) n cells) L1 L2) (hn : xs.length = n) (hc : xs.map Sl.v = cells) : Ent L (SA.dat (⟨some ⟨g, 0, none⟩, n, xs⟩ : Sl Bs) :: L2) :=
  h1.ent.trans ((h2.ent.under _).trans (Ent.swap.trans (Ent.freeze.trans (Ent.mkSl hn rfl hc))))
/-- the address of a field, the base kept apart -/
theorem Y.fieldAddrJ {s f : Nat} {off b k j q : Nat} (ho : o.op = .fieldAddr s x f) (hf : Program.fieldOff P s f = some off) (hx : evO F x = some (.pointer (some ⟨b, k + j, none⟩))) (hq : j + off = q) : Yld P N o F As (.pointer (some ⟨b, k + q, none⟩)) :=
  Y.fieldAddr ho hf hx (by omega)
theorem Src.dat {s : Bs} {tx e' : Nat} (hk : P.underlying tx = some (.slice e')) (h : In (SA.dat s) As) : ∀ w, Holds As w → Src P 1 tx (.slice s.a s.l.length s.cap) s.l.length (s.l.map v8) w := Src.reads Reads.bytes hk h
/-- what there is, is named -/
theorem TC.open {γ : Type} {f : γ → SA} (hp : Pull (SA.ex f) L L0) (k : ∀ x, TC κ P N code F (f x :: L0) Q) : TC κ P N code F L Q := fun ds a w ha hd hw => by
  have h1 := ((Pull.there (B := SA.hid κ.X ds) hp).st hw)
  obtain ⟨x, h⟩ := h1.ex
  exact k x ds a w ha hd h.up1
/-- a truth is known -/
theorem TL.is {d : Nat} {b : Bool} {ops : Array Oper} {rest : List Oper} (c : Bool) (h : b = c) (k : TL κ P N ops rest ((d, some (.bool c)) :: F) L Q) : TL κ P N ops rest ((d, some (.bool b)) :: F) L Q := h ▸ k
theorem TA.is {d last fuel : Nat} {b : Bool} {ops : Array Oper} {listed : Array Bool} (c : Bool) (h : b = c) (k : TA κ P N ops last As fuel listed ((d, some (.bool c)) :: F) L Q) : TA κ P N ops last As fuel listed ((d, some (.bool b)) :: F) L Q := h ▸ k
/-- a value, said in other words -/
theorem TL.as {d : Nat} {v : Value} {ops : Array Oper} {rest : List Oper} (u : Value) (h : v = u) (k : TL κ P N ops rest ((d, some u) :: F) L Q) : TL κ P N ops rest ((d, some v) :: F) L Q := h ▸ k
theorem TA.as {d last fuel : Nat} {v : Value} {ops : Array Oper} {listed : Array Bool} (u : Value) (h : v = u) (k : TA κ P N ops last As fuel listed ((d, some u) :: F) L Q) : TA κ P N ops last As fuel listed ((d, some v) :: F) L Q := h ▸ k
theorem TA.to {last fuel : Nat} {ops : Array Oper} {listed : Array Bool} {L' : List SA} (h : Ent L L') (k : TA κ P N ops last As fuel listed F L' Q) : TA κ P N ops last As fuel listed F L Q := fun ds a w ha hd hw hS => k ds a w ha hd (h.hid hw) hS
theorem TA.know {last fuel : Nat} {ops : Array Oper} {listed : Array Bool} {φ : Prop} (h : ∀ w, Holds L w → φ) (k : φ → TA κ P N ops last As fuel listed F L Q) : TA κ P N ops last As fuel listed F L Q := fun ds a w ha hd hw hS => k (h w hw.tl.holds) ds a w ha hd hw hS
theorem TL.open {γ : Type} {f : γ → SA} {ops : Array Oper} {rest : List Oper} (hp : Pull (SA.ex f) L L0) (k : ∀ x, TL κ P N ops rest F (f x :: L0) Q) : TL κ P N ops rest F L Q := fun ds a w ha hd hw => by
  have h1 := ((Pull.there (B := SA.hid κ.X ds) hp).st hw)
  obtain ⟨x, h⟩ := h1.ex
  exact k x ds a w ha hd h.up1
theorem TL.split {B : SA} {ops : Array Oper} {rest : List Oper} (hp : Pull (SA.star A B) L L0) (k : TL κ P N ops rest F (A :: B :: L0) Q) : TL κ P N ops rest F L Q := fun ds a w ha hd hw =>
  k ds a w ha hd ((Ent.starE.under _).st ((hp.ent.under _).st hw))
theorem TC.split {B : SA} (hp : Pull (SA.star A B) L L0) (k : TC κ P N code F (A :: B :: L0) Q) : TC κ P N code F L Q := fun ds a w ha hd hw =>
  k ds a w ha hd ((Ent.starE.under _).st ((hp.ent.under _).st hw))
/-! ### arguments that are such data -/
/-- the slices can be read -/
def RdAll (W : World) (gs : List G) : Prop := ∀ q ∈ gs, 0 < q.sz ∧ Rd W q.sz q.v q.n q.cells
theorem RdAll.app {W : World} {gs hs : List G} (h : RdAll W gs) (k : RdAll W hs) : RdAll W (gs ++ hs) := fun q hq => (List.mem_append.1 hq).elim (h q) (k q)
/-- values of this type are such data, within bounds -/
def DatT (P : Program) (t : TypeId) (α : Type) [Dat α] (Bd : α → Prop) : Prop :=
  ∀ (H : Type) (enc : TypeId × Value → H) (W : World) (cs : List Value), Opn enc P W t cs → ∃ x : α, cs = Dat.c x ∧ RdAll W (Dat.g x) ∧ Bd x
/-- from a place on -/
def DatF (P : Program) (t off : Nat) (α : Type) [Dat α] (Bd : α → Prop) : Prop :=
  ∀ (H : Type) (enc : TypeId × Value → H) (W : World) (cs : List Value), Opn enc P W t cs → ∃ x : α, cs.drop off = Dat.c x ∧ RdAll W (Dat.g x) ∧ Bd x
theorem RdAll.st {W : World} {gs : List G} (h : RdAll W gs) : ∃ R, (SA.rdss gs).p W (fun _ => False) R ∧ ∀ k, R k → k < W.heap.size := by
  refine ⟨fun k => ∃ q ∈ gs, q.n ≠ 0 ∧ k ∈ own q.v, fun q hq => ⟨fun hn k hk => ⟨q, hq, hn, hk⟩, (h q hq).2⟩, ?_⟩
  rintro k ⟨q, hq, hn, hk⟩
  obtain ⟨R, h1, h2⟩ := (h q hq).2.arg (h q hq).1
  exact h2 k (h1.1 hn k hk)
theorem wf_u16 {n : Int} (h : (Lit.int .u16 n).wf = true) : n = ((UInt16.ofNat n.toNat).toNat : Int) := by
  have := bounds_u16 h
  rw [UInt16.toNat_ofNat_of_lt' (by show n.toNat < 65536; omega)]; omega
theorem wf_u32 {n : Int} (h : (Lit.int .u32 n).wf = true) : n = ((UInt32.ofNat n.toNat).toNat : Int) := by
  have := bounds_u32 h
  rw [UInt32.toNat_ofNat_of_lt' (by show n.toNat < 4294967296; omega)]; omega
theorem DatT.u8 {t : TypeId} (h : P.underlying t = some (.int .u8)) : DatT P t UInt8 (fun _ => True) := fun H enc W cs ho => by
  obtain ⟨n, rfl, hn⟩ := ho.int h
  exact ⟨b8 n, by show [Value.int .u8 n] = [Value.int .u8 _]; rw [← wf_u8 hn], fun q hq => (by cases hq), trivial⟩
theorem DatT.u16 {t : TypeId} (h : P.underlying t = some (.int .u16)) : DatT P t UInt16 (fun _ => True) := fun H enc W cs ho => by
  obtain ⟨n, rfl, hn⟩ := ho.int h
  exact ⟨UInt16.ofNat n.toNat, by show [Value.int .u16 n] = [Value.int .u16 _]; rw [← wf_u16 hn], fun q hq => (by cases hq), trivial⟩
theorem DatT.u32 {t : TypeId} (h : P.underlying t = some (.int .u32)) : DatT P t UInt32 (fun _ => True) := fun H enc W cs ho => by
  obtain ⟨n, rfl, hn⟩ := ho.int h
  exact ⟨UInt32.ofNat n.toNat, by show [Value.int .u32 n] = [Value.int .u32 _]; rw [← wf_u32 hn], fun q hq => (by cases hq), trivial⟩
/-- an int's bounds -/
def inI (n : Int) : Prop := -9223372036854775808 ≤ n ∧ n ≤ 9223372036854775807
theorem DatT.int {t : TypeId} (h : P.underlying t = some (.int .i64)) : DatT P t Int inI := fun H enc W cs ho => by
  obtain ⟨n, rfl, hn⟩ := ho.int h
  have := bounds_i64 hn
  exact ⟨n, rfl, fun q hq => (by cases hq), by unfold inI; omega⟩
theorem DatT.bool {t : TypeId} (h : P.underlying t = some .bool) : DatT P t Bool (fun _ => True) := fun H enc W cs ho => by
  obtain ⟨n, rfl⟩ := ho.bool h
  exact ⟨n, rfl, fun q hq => (by cases hq), trivial⟩
theorem DatT.string {t : TypeId} (h : P.underlying t = some .string) : DatT P t ByteArray (fun s => s.size ≤ reachBytes) := fun H enc W cs ho => by
  obtain ⟨n, rfl, hn⟩ := ho.string h
  exact ⟨n, rfl, fun q hq => (by cases hq), hn⟩
theorem DatT.slice {t e B : Nat} {Bd : α → Prop} (ht : P.underlying t = some (.slice e)) (hc : P.cellsOf e = Dat.sz α) (hB : P.bytesOf e = B) (he : DatT P e α Bd) : DatT P t (Sl α) (fun s => s.l.length * B ≤ reachBytes ∧ ∀ x ∈ s.l, Bd x) := fun H enc W cs ho => by
  rcases ho.slice ht with h1 | ⟨a, len, cap, h1, hl, hm, hr, hx⟩
  · refine ⟨⟨none, 0, []⟩, h1, ?_, by simp, by simp⟩
    intro q hq
    have hq : q = ⟨Dat.sz α, .slice none 0 0, 0, Dat.cs ([] : List α)⟩ := by simp [Dat.g] at hq; exact hq
    subst hq
    exact ⟨Dat.pos, by simp [Dat.cs_eq], by simp [Dat.cs_eq], none, 0, rfl, by simp, by simp, by simp, by simp [Dat.cs_eq]⟩
  · rw [hc, hB] at *
    obtain ⟨xs, g1, g2⟩ := choose_list (q := fun i (x : α) => (∀ j u, (Dat.c x)[j]? = some u → W.cell? (a.add (i * Dat.sz α + j)) = some u) ∧ RdAll W (Dat.g x) ∧ Bd x) (n := len) (fun i hi => by
      obtain ⟨es, e1, e2, e3⟩ := hx i hi
      obtain ⟨x, rfl, hg, hb⟩ := he H enc W es e3
      exact ⟨x, e2, hg, hb⟩)
    subst g1
    have g2' : ∀ x ∈ xs, RdAll W (Dat.g x) ∧ Bd x := fun x hx => by
      obtain ⟨i, hi, rfl⟩ := List.getElem_of_mem hx
      exact (g2 i _ (List.getElem?_eq_getElem hi)).2
    refine ⟨⟨some a, cap, xs⟩, h1, ?_, Nat.le_trans (Nat.mul_le_mul_right _ hl) hr, fun x hx => (g2' x hx).2⟩
    intro q hq
    have hq : q = ⟨Dat.sz α, .slice (some a) xs.length cap, xs.length, Dat.cs xs⟩ ∨ q ∈ xs.flatMap Dat.g := List.mem_cons.1 hq
    rcases hq with rfl | hq
    · refine ⟨Dat.pos, Dat.cs_len xs, ?_, some a, cap, rfl, hl, hm, by simp, ?_⟩
      · intro u hu
        rw [Dat.cs_eq] at hu
        obtain ⟨x, hx, hu⟩ := List.mem_flatMap.1 hu
        exact Dat.one x u hu
      · intro b hb j u hu
        cases hb
        have hj : j < xs.length * Dat.sz α := by rw [← Dat.cs_len]; exact (List.getElem?_eq_some_iff.1 hu).1
        have hi : j / Dat.sz α < xs.length := Nat.div_lt_of_lt_mul (by rw [Nat.mul_comm]; exact hj)
        have hmod := Nat.mod_lt j (Dat.pos (α := α))
        have ej : j / Dat.sz α * Dat.sz α + j % Dat.sz α = j := Nat.div_add_mod' j _
        have := (g2 _ _ (List.getElem?_eq_getElem hi)).1 (j % Dat.sz α) u (by rw [← Dat.cs_at (List.getElem?_eq_getElem hi) hmod, ej]; exact hu)
        rwa [ej] at this
    · obtain ⟨x, hx, hq⟩ := List.mem_flatMap.1 hq
      exact (g2' x hx).1 q hq
theorem DatF.cons {t t' off n i : Nat} {fs : Array Field} {B1 : α → Prop} {B2 : β → Prop} (ht : P.underlying t = some (.struct fs)) (hf : (fs[i]?).map (fun f => (f.type, f.offset)) = some (t', off)) (hc : P.cellsOf t' = n) (h1 : DatT P t' α B1) (h2 : DatF P t (off + n) β B2) : DatF P t off (α × β) (fun x => B1 x.1 ∧ B2 x.2) := fun H enc W cs ho => by
  obtain ⟨x, e1, g1, b1⟩ := h1 H enc W _ (ho.field ht i t' off hf hc)
  obtain ⟨y, e2, g2, b2⟩ := h2 H enc W cs ho
  refine ⟨(x, y), ?_, g1.app g2, b1, b2⟩
  show cs.drop off = Dat.c x ++ Dat.c y
  rw [← e1, ← e2, ← List.drop_drop, List.take_append_drop]
theorem DatF.last {t t' off n i : Nat} {fs : Array Field} {B1 : α → Prop} (ht : P.underlying t = some (.struct fs)) (hf : (fs[i]?).map (fun f => (f.type, f.offset)) = some (t', off)) (hc : P.cellsOf t' = n) (h1 : DatT P t' α B1) (hl : P.cellsOf t = off + n) : DatF P t off α B1 := fun H enc W cs ho => by
  obtain ⟨x, e1, g1, b1⟩ := h1 H enc W _ (ho.field ht i t' off hf hc)
  refine ⟨x, ?_, g1, b1⟩
  rw [← e1, List.take_of_length_le]
  have := (ho.struct ht).1
  rw [List.length_drop]; omega
theorem DatF.all {t : Nat} {B1 : α → Prop} (h : DatF P t 0 α B1) : DatT P t α B1 := fun H enc W cs ho => by
  obtain ⟨x, e, g⟩ := h H enc W cs ho
  exact ⟨x, by simpa using e, g⟩
end
end Go.Proofs.Ytpmplnkempcmjaa

/- More rules: comparisons with nil; readable slices cut. No program is named. -/
namespace Go.Proofs.Ytpmplnkempcmjaa
set_option linter.unusedVariables false
set_option linter.unusedSimpArgs false
open Go.RowKit
section
variable {P : Program} {N : Nat} {F : FE} {As L L0 : List SA} {o : Oper} {x y : Operand} {u : Value}
theorem Y.cmpNilS {t yt e n c : Nat} {a : Option Addr} {neg : Bool} (ho : o.op = .binOp (if neg then .neq else .eql) t x y yt) (hu : P.underlying t = some (.slice e)) (hx : evO F x = some (.slice a n c)) (hy : evO F y = some (.slice none 0 0)) : Yld P N o F As (.bool (if neg then !a.isNone else a.isNone)) := fun a' w ha _ => by
  unfold execOp; rw [ho]
  replace hx := ha.eval hx
  replace hy := ha.eval hy
  generalize a'.eval = ρ at hx hy ⊢
  cases neg
  · simp [hx, hy, eqGuard, binOp, run_equal_slice_nil _ t e a n c hu, go_sem]
  · simp [hx, hy, eqGuard, binOp, run_equal_slice_nil _ t e a n c hu, go_sem]
theorem Y.eqNilS {t yt e n c : Nat} {a : Option Addr} (ho : o.op = .binOp .eql t x y yt) (hu : P.underlying t = some (.slice e)) (hx : evO F x = some (.slice a n c)) (hy : evO F y = some (.slice none 0 0)) : Yld P N o F As (.bool a.isNone) := Y.cmpNilS (neg := false) ho hu hx hy
theorem Y.neNilS {t yt e n c : Nat} {a : Option Addr} (ho : o.op = .binOp .neq t x y yt) (hu : P.underlying t = some (.slice e)) (hx : evO F x = some (.slice a n c)) (hy : evO F y = some (.slice none 0 0)) : Yld P N o F As (.bool (!a.isNone)) := Y.cmpNilS (neg := true) ho hu hx hy
theorem Y.cmpNilP {t yt e : Nat} {p : Option Addr} {neg : Bool} (ho : o.op = .binOp (if neg then .neq else .eql) t x y yt) (hu : P.underlying t = some (.pointer e)) (hx : evO F x = some (.pointer p)) (hy : evO F y = some (.pointer none)) : Yld P N o F As (.bool (if neg then !p.isNone else p.isNone)) := fun a' w ha _ => by
  have hu : P.underlying t = some (.pointer (P.pointee t)) := by
    have : P.pointee t = e := by unfold Program.pointee; rw [hu]
    rw [this]; exact hu
  unfold execOp; rw [ho]
  replace hx := ha.eval hx
  replace hy := ha.eval hy
  generalize a'.eval = ρ at hx hy ⊢
  cases neg
  · simp [hx, hy, eqGuard, binOp, run_equal_pointer_nil _ t p hu, go_sem]
  · simp [hx, hy, eqGuard, binOp, run_equal_pointer_nil _ t p hu, go_sem]
theorem Y.eqNilP {t yt e : Nat} {p : Addr} (ho : o.op = .binOp .eql t x y yt) (hu : P.underlying t = some (.pointer e)) (hx : evO F x = some (.pointer (some p))) (hy : evO F y = some (.pointer none)) : Yld P N o F As (.bool false) := Y.cmpNilP (neg := false) ho hu hx hy
theorem Y.neNilP {t yt e : Nat} {p : Addr} (ho : o.op = .binOp .neq t x y yt) (hu : P.underlying t = some (.pointer e)) (hx : evO F x = some (.pointer (some p))) (hy : evO F y = some (.pointer none)) : Yld P N o F As (.bool true) := Y.cmpNilP (neg := true) ho hu hx hy
theorem Y.eqNil0 {t yt e : Nat} (ho : o.op = .binOp .eql t x y yt) (hu : P.underlying t = some (.pointer e)) (hx : evO F x = some (.pointer none)) (hy : evO F y = some (.pointer none)) : Yld P N o F As (.bool true) := Y.cmpNilP (neg := false) ho hu hx hy
theorem Y.neNil0 {t yt e : Nat} (ho : o.op = .binOp .neq t x y yt) (hu : P.underlying t = some (.pointer e)) (hx : evO F x = some (.pointer none)) (hy : evO F y = some (.pointer none)) : Yld P N o F As (.bool false) := Y.cmpNilP (neg := true) ho hu hx hy
theorem own_cut {a : Option Addr} {n cap k : Nat} {sz : Nat} : ∀ q ∈ own (cutV a cap k n sz), q ∈ own (.slice a n cap) := by
  intro q hq
  unfold cutV at hq
  split at hq
  · cases a with
    | none => simp [own] at hq
    | some p => simpa [own] using hq
  · cases a with
    | none => simp [own] at hq
    | some p => simpa [own, add_block] using hq
theorem Ent.dropRds {sz n cap k : Nat} {a : Option Addr} {cs : List Value} (hk : k ≤ n) : Ent (SA.rds sz (.slice a n cap) n cs :: L) (SA.rds sz (cutV a cap k n sz) (n - k) (cs.drop (k * sz)) :: L) := Ent.imp fun w O R h =>
  ⟨O, R, ⟨fun hn q hq => h.1 (by omega) q (own_cut q hq), h.2.drop hk⟩, fun _ h => h, fun _ h => .inr h⟩
theorem Ent.cutRds {n cap k : Nat} {a : Option Addr} {l : List UInt8} (hk : k ≤ n) : Ent (SA.rds 1 (.slice a n cap) n (l.map v8) :: L) (SA.rds 1 (.slice a k cap) k ((l.take k).map v8) :: SA.rds 1 (cutV a cap k n 1) (n - k) ((l.drop k).map v8) :: L) := by
  have h := (Ent.dup Dup.rds).trans ((Ent.takeRds (sz := 1) (a := a) (cap := cap) (cs := l.map v8) hk).trans (Ent.under (L := SA.rds 1 (.slice a n cap) n (l.map v8) :: L) _ (Ent.dropRds hk)))
  simpa [List.map_take, List.map_drop] using h
/-! ### slice literals of structs -/
theorem flat_len' {sz : Nat} {vs : List Value} (h : ∀ v ∈ vs, v.cells.size = sz) : (vs.flatMap (·.cells.toList)).length = vs.length * sz := by
  induction vs with
  | nil => simp
  | cons x r ih => rw [List.flatMap_cons, List.length_append, ih (fun v hv => h v (by simp [hv])), Array.length_toList, h x (by simp), List.length_cons, Nat.add_mul]; omega
theorem writeAt_app (xs ys : List Value) : ∀ (cs : Array Value) (o : Nat), writeAt cs o (xs ++ ys) = writeAt (writeAt cs o xs) (o + xs.length) ys := by
  induction xs with
  | nil => intro cs o; rfl
  | cons x r ih => intro cs o; simp only [List.cons_append, writeAt, ih, List.length_cons]; congr 1; omega
theorem fold_write (l : List Value) : ∀ (cs : Array Value) (o k : Nat), (l.zipIdx k).foldl (fun cs (p : Value × Nat) => cs.setIfInBounds (o + p.2) p.1) cs = writeAt cs (o + k) l := by
  induction l with
  | nil => intro cs o k; rfl
  | cons v r ih => intro cs o k; simp only [List.zipIdx_cons, List.foldl_cons, writeAt, ih]; rfl
theorem fill_flat {sz : Nat} (vs : List Value) : ∀ (k : Nat) (cells : Array Value), (∀ v ∈ vs, v.cells.size = sz) → (k + vs.length) * sz ≤ cells.size →
    Instr.fill (fun i => some (i * sz, sz)) cells ((List.range' k vs.length).zip vs) = some (writeAt cells (k * sz) (vs.flatMap (·.cells.toList))) := by
  induction vs with
  | nil => intro k cells _ _; rfl
  | cons v r ih =>
    intro k cells h1 hk
    have hs := h1 v (by simp)
    simp only [List.length_cons] at hk ⊢
    rw [List.range'_succ, List.zip_cons_cons, Instr.fill]
    have h2 : k * sz + sz ≤ (k + (r.length + 1)) * sz := by rw [← Nat.succ_mul]; exact Nat.mul_le_mul_right _ (by omega)
    have hc : ¬ (k * sz + v.cells.size > cells.size) := by rw [hs]; omega
    have hf : v.cells.zipIdx.foldl (fun cs (p : Value × Nat) => cs.setIfInBounds (k * sz + p.2) p.1) cells = writeAt cells (k * sz) v.cells.toList := by
      rw [← Array.foldl_toList, Array.toList_zipIdx]
      exact fold_write v.cells.toList cells (k * sz) 0
    have := ih (k + 1) (writeAt cells (k * sz) v.cells.toList) (fun u hu => h1 u (by simp [hu])) (by rw [writeAt_size]; rw [show k + 1 + r.length = k + (r.length + 1) by omega]; exact hk)
    have hd : (decide (v.cells.size ≠ sz) || decide (k * sz + v.cells.size > cells.size)) = false := by simp [hs]; omega
    simp only [hd, Bool.false_eq_true, if_false]
    show Instr.fill _ (v.cells.zipIdx.foldl (fun cs (p : Value × Nat) => cs.setIfInBounds (k * sz + p.2) p.1) cells) _ = _
    rw [hf, this, List.flatMap_cons, writeAt_app]
    congr 2
    rw [Nat.add_mul, Array.length_toList, hs, Nat.one_mul]
/-- a slice literal of structs, all given -/
theorem X.litA {t e sz bytes n : Nat} {z : Value} {parts : List (Nat × Operand)} {vs cells : List Value} (ho : o.op = .buildSlice t n parts.toArray) (hu : P.underlying t = some (.slice e)) (hz : ((P.info? e).bind fun i => i.zero.map fun z => (i.size, z.cells.size)) = some (sz, sz)) (hp : evA F (parts.map (·.2)) = some vs) (hi : parts.map (·.1) = List.range' 0 vs.length) (hlen : vs.length = n) (hn : n * sz ≤ 16777216) (hpos : 0 < sz) (hm : n ≤ maxLen)
    (h1 : vs.all (fun v => v.cells.size == sz) = true) (hc : vs.flatMap (·.cells.toList) = cells) (hone : cells.all (·.oneCell') = true) :
    Eff P N o F L (fun v L' => ∃ g, v = .slice (some ⟨g, 0, none⟩) n n ∧ L' = SA.owns e sz (.slice (some ⟨g, 0, none⟩) n n) n cells :: L) := by
  have h1' : ∀ v ∈ vs, v.cells.size = sz := fun v hv => by simpa using List.all_eq_true.1 h1 v hv
  obtain ⟨inf, hinf, hq⟩ := Option.bind_eq_some_iff.1 hz
  obtain ⟨zv, hzv, hq2⟩ := Option.map_eq_some_iff.1 hq
  simp only [Prod.mk.injEq] at hq2
  have hlc : cells.length = n * sz := by rw [← hc, ← hlen]; exact flat_len' h1'
  have := X.buildSlice (L := L) (e := e) (sz := sz) (cells := cells.toArray) ho hp (N := N) (P := P) (fun w => ?_) (by simpa using hlc) (by simpa using hone) hm
  · simpa using this
  · rw [hi]
    have hcn : ¬ (n * sz > 2 ^ 24) := by omega
    unfold Instr.buildSlice
    simp only [Sem.run_bind, run_underlying hu, Result.andThen_ok, sizeOf, typeInfo, List.toList_toArray]
    simp only [Sem.run_bind, run_program, Result.andThen_ok, hinf, Sem.run_pure, hq2.1]
    have hfill : ∀ zz : Array Value, Instr.fill (fun i => some (i * sz, sz)) (Array.map (fun x => zz[x % zz.size]!) (Array.range (n * sz))) ((List.range' 0 vs.length).zip vs) = some cells.toArray := fun zz => by
      rw [fill_flat vs 0 _ h1' (by simp [hlen]), hc, Nat.zero_mul, writeAt_all _ _ (by simp [hlc])]
    have hzr : (zeroValue e).run P w = .ok zv w := by simp [zeroValue, typeInfo, hinf, hzv, go_sem]
    have htail : ∀ zz : Array Value, Sem.run P (match Instr.fill (fun i => some (i * sz, sz)) (Array.map (fun x => zz[x % zz.size]!) (Array.range (n * sz))) ((List.range' 0 vs.length).zip vs) with
        | some cells => do
          let r ← newRow e cells
          pure (Value.slice (some r) n n)
        | x => stuck "buildSlice: a part of the wrong size") w = Result.ok (Value.slice (some { block := w.heap.size, off := 0 }) n n) (w.alloc (Obj.cells cells.toArray e)) := fun zz => by
      rw [hfill]
      rfl
    rw [if_neg hcn]
    by_cases h0 : n * sz = 0
    · rw [if_pos h0]
      exact htail #[]
    · rw [if_neg h0, Sem.run_bind, hzr, Result.andThen_ok]
      exact htail zv.cells
theorem holds_nil : ∀ w, Holds L w → Holds [] w := fun w _ A hA => by cases hA
theorem holds_cons {A : SA} (hA : In A L) (h : ∀ w, Holds L w → Holds As w) : ∀ w, Holds L w → Holds (A :: As) w := fun w hw B hB => by
  cases hB with
  | here => exact hw _ hA
  | there hB => exact h w hw B hB
end
end Go.Proofs.Ytpmplnkempcmjaa

/- Bits of ints that are not negative; more on ints. No program is named. -/
namespace Go.Proofs.Ytpmplnkempcmjaa
set_option linter.unusedVariables false
set_option linter.unusedSimpArgs false
open Go.RowKit
theorem ofInt_nat (m : Nat) : BitVec.ofInt 64 (m : Int) = BitVec.ofNat 64 m := by
  apply BitVec.eq_of_toNat_eq; simp
theorem br_andN {m n : Nat} (hm : m < 9223372036854775808) (hn : n < 9223372036854775808) : BR .and .i64 m .i64 n (vN (m &&& n)) := fun P w t => by
  show Result.ok (Value.int .i64 (IntKind.i64.wrap ((BitVec.ofInt 64 (m : Int) &&& BitVec.ofInt 64 (n : Int)).toNat : Nat))) w = _
  rw [ofInt_nat, ofInt_nat, BitVec.toNat_and, BitVec.toNat_ofNat, BitVec.toNat_ofNat, Nat.mod_eq_of_lt (by omega), Nat.mod_eq_of_lt (by omega)]
  have : m &&& n ≤ m := Nat.and_le_left
  rw [wrap_i64 _ (by omega) (by omega)]
theorem br_orN {m n : Nat} (hm : m < 9223372036854775808) (hn : n < 9223372036854775808) : BR .or .i64 m .i64 n (vN (m ||| n)) := fun P w t => by
  show Result.ok (Value.int .i64 (IntKind.i64.wrap ((BitVec.ofInt 64 (m : Int) ||| BitVec.ofInt 64 (n : Int)).toNat : Nat))) w = _
  rw [ofInt_nat, ofInt_nat, BitVec.toNat_or, BitVec.toNat_ofNat, BitVec.toNat_ofNat, Nat.mod_eq_of_lt (by omega), Nat.mod_eq_of_lt (by omega)]
  have : m ||| n < 2 ^ 63 := Nat.or_lt_two_pow (by omega) (by omega)
  rw [wrap_i64 _ (by omega) (by omega)]
theorem br_shlN {m n c : Nat} {k : IntKind} (hc : 2 ^ n = c) (hn : n ≤ 64) (h : m * c < 9223372036854775808) : BR .shl .i64 m k n (vN (m * c)) := fun P w t => by
  subst hc
  have hneg : ¬ ((n : Int) < 0) := by omega
  show (Op.shift .shl .i64 (m : Int) k (n : Int)).run P w = _
  unfold Op.shift
  rw [if_neg hneg]
  show Result.ok (Value.int .i64 (IntKind.i64.wrap ((m : Int) * (2 ^ (min (n : Int).toNat 64))))) w = _
  have e : ((m : Int) * 2 ^ n) = ((m * 2 ^ n : Nat) : Int) := by rw [Int.natCast_mul, Int.natCast_pow]; rfl
  rw [Int.toNat_natCast, Nat.min_eq_left hn, e, wrap_i64 _ (by omega) (by omega)]
theorem br_shrN {m n c : Nat} {k : IntKind} (hc : 2 ^ n = c) (hn : n ≤ 64) : BR .shr .i64 m k n (vN (m / c)) := fun P w t => by
  subst hc
  have hneg : ¬ ((n : Int) < 0) := by omega
  show (Op.shift .shr .i64 (m : Int) k (n : Int)).run P w = _
  unfold Op.shift
  rw [if_neg hneg]
  show Result.ok (Value.int .i64 ((m : Int).fdiv (2 ^ (min (n : Int).toNat 64)))) w = _
  congr 2
  rw [Int.fdiv_eq_ediv_of_nonneg _ (by exact Int.le_of_lt (Int.pow_pos (by decide)))]
  simp only [Int.toNat_natCast]
  rw [Nat.min_eq_left hn, Int.natCast_ediv, Int.natCast_pow]; rfl
end Go.Proofs.Ytpmplnkempcmjaa

/- More rules: tuples, max and min of ints, data put together. No program is named. -/
namespace Go.Proofs.Ytpmplnkempcmjaa
set_option linter.unusedVariables false
set_option linter.unusedSimpArgs false
open Go.RowKit
section
variable {P : Program} {N : Nat} {F : FE} {As L L0 : List SA} {o : Oper} {x y z : Operand} {v : Value}
theorem Y.extract {i : Nat} {vs : Array Value} (ho : o.op = .extract x i) (hx : evO F x = some (.tuple vs)) (hv : vs[i]? = some v) : Yld P N o F As v := fun a w ha _ => by
  unfold execOp; rw [ho]
  replace hx := ha.eval hx
  generalize a.eval = ρ at hx ⊢
  simp [hx, Instr.extract, hv, go_sem]
theorem Y.minI {m n : Int} {at' : Array TypeId} (ho : o.op = .call { callee := .builtin .min, args := #[x, y], argTypes := at' }) (hx : evO F x = some (vI m)) (hy : evO F y = some (vI n)) : Yld P N o F As (vI (min m n)) := fun a w ha hw => by
  unfold execOp; rw [ho]
  replace hx := ha.eval hx
  replace hy := ha.eval hy
  generalize a.eval = ρ at hx hy ⊢
  simp [resolve, invoke, builtin, hx, hy, Builtin.min_, Builtin.min2, Result.andThen, Oper.upon, go_sem]
  split <;> omega
theorem Y.maxI {m n : Int} {at' : Array TypeId} (ho : o.op = .call { callee := .builtin .max, args := #[x, y], argTypes := at' }) (hx : evO F x = some (vI m)) (hy : evO F y = some (vI n)) : Yld P N o F As (vI (max m n)) := fun a w ha hw => by
  unfold execOp; rw [ho]
  replace hx := ha.eval hx
  replace hy := ha.eval hy
  generalize a.eval = ρ at hx hy ⊢
  simp [resolve, invoke, builtin, hx, hy, Builtin.max_, Builtin.max2, Result.andThen, Oper.upon, go_sem]
  split <;> omega
theorem Y.negI {t : TypeId} {n : Int} (ho : o.op = .unOp .neg t x) (hx : evO F x = some (vI n)) (h1 : -9223372036854775808 ≤ -n) (h2 : -n ≤ 9223372036854775807) : Yld P N o F As (vI (-n)) := fun a w ha _ => by
  unfold execOp; rw [ho]
  replace hx := ha.eval hx
  generalize a.eval = ρ at hx ⊢
  have := wrap_i64 (-n) h1 h2
  simp [hx, Op.unary, Op.intArith, go_sem]
  simpa using this
end
theorem br_mulI {m n : Int} (h1 : -9223372036854775808 ≤ m * n) (h2 : m * n ≤ 9223372036854775807) : BR .mul .i64 m .i64 n (.int .i64 (m * n)) := fun P w t => by
  simp [binOp, Op.intArith, go_sem]; exact wrap_i64 _ h1 h2
theorem tdiv_le {m n : Int} (h : 0 < n) (h1 : -9223372036854775808 ≤ m) (h2 : m ≤ 9223372036854775807) : -9223372036854775808 ≤ m.tdiv n ∧ m.tdiv n ≤ 9223372036854775807 := by
  have h3 : (m.tdiv n).natAbs ≤ m.natAbs := by rw [Int.natAbs_tdiv]; exact Nat.div_le_self _ _
  rcases Int.le_total 0 m with h0 | h0
  · have : 0 ≤ m.tdiv n := Int.tdiv_nonneg h0 (by omega)
    omega
  · have h4 : 0 ≤ (-m).tdiv n := Int.tdiv_nonneg (by omega) (by omega)
    rw [Int.neg_tdiv] at h4
    omega
theorem br_quoI {m n : Int} (h : 0 < n) (h1 : -9223372036854775808 ≤ m) (h2 : m ≤ 9223372036854775807) : BR .quo .i64 m .i64 n (.int .i64 (m.tdiv n)) := fun P w t => by
  have : ¬ (n = 0) := by omega
  simp [binOp, Op.intDiv, this, go_sem]
  exact wrap_i64 _ (tdiv_le h h1 h2).1 (tdiv_le h h1 h2).2
theorem br_remI {m n : Int} (h : n ≠ 0) : BR .rem .i64 m .i64 n (.int .i64 (m.tmod n)) := fun P w t => by
  simp [binOp, Op.intDiv, h, go_sem]
theorem br_rem16 {x y : UInt16} (h : y ≠ 0) : BR .rem .u16 x.toNat .u16 y.toNat (v16 (x % y)) := fun P w t => by
  have h0 : y.toNat ≠ 0 := fun e => h (UInt16.toNat_inj.1 e)
  simp [binOp, Op.intDiv, h0, go_sem]
  try rw [Int.tmod_eq_emod_of_nonneg (by omega)]
  try rfl
/-- differences of uint64s that were int64s -/
theorem br_subU {a b : Int} : BR .sub .u64 (a % 18446744073709551616) .u64 (b % 18446744073709551616) (.int .u64 ((a - b) % 18446744073709551616)) := fun P w t => by
  simp [binOp, Op.intArith, go_sem, wrap_u64]
theorem allOne {l : List Value} (h : l.all (·.oneCell') = true) : ∀ v ∈ l, v.oneCell' = true := List.all_eq_true.1 h
/-- '-k & 3' -/
theorem br_negand3 {k : Nat} (h : k < 65536) : BR .and .i64 (-(k : Int)) .i64 3 (vN ((4 - k % 4) % 4)) := fun P w t => by
  show Result.ok (Value.int .i64 (IntKind.i64.wrap ((BitVec.ofInt 64 (-(k : Int)) &&& BitVec.ofInt 64 3).toNat : Nat))) w = _
  have e : (BitVec.ofInt 64 (-(k : Int)) &&& BitVec.ofInt 64 3).toNat = (4 - k % 4) % 4 := by
    rw [BitVec.toNat_and, BitVec.toNat_ofInt, show (BitVec.ofInt 64 3).toNat = 2 ^ 2 - 1 from rfl, Nat.and_two_pow_sub_one_eq_mod]
    omega
  rw [e, wrap_i64 _ (by omega) (by omega)]
/-- a piece of a slice that is read -/
theorem Rd.cut {w : World} {sz n cap lo hi : Nat} {a : Option Addr} {cs : List Value} (h : Rd w sz (.slice a n cap) n cs) (h1 : lo ≤ hi) (h2 : hi ≤ n) : Rd w sz (cutV a cap lo hi sz) (hi - lo) ((cs.drop (lo * sz)).take ((hi - lo) * sz)) :=
  (h.drop (k := lo) (by omega)).take (k := hi - lo) (by omega)
section
variable {P : Program} {As : List SA} {A : SA}
theorem Src.cut {sz n cap lo hi tx e' : Nat} {a : Option Addr} {cs : List Value} (hA : Reads A sz (.slice a n cap) n cs) (hk : P.underlying tx = some (.slice e')) (h : In A As) (h1 : lo ≤ hi) (h2 : hi ≤ n) :
    ∀ w, Holds As w → Src P sz tx (cutV a cap lo hi sz) (hi - lo) ((cs.drop (lo * sz)).take ((hi - lo) * sz)) w := fun w hw => by
  obtain ⟨O, R, hp⟩ := hw A h
  exact ((hA w O R hp).cut h1 h2).src hk
theorem Src.cut8 {n cap lo hi tx e' : Nat} {a : Option Addr} {l : List UInt8} (hA : Reads A 1 (.slice a n cap) n (l.map v8)) (hk : P.underlying tx = some (.slice e')) (h : In A As) (h1 : lo ≤ hi) (h2 : hi ≤ n) :
    ∀ w, Holds As w → Src P 1 tx (cutV a cap lo hi 1) (hi - lo) (((l.drop lo).take (hi - lo)).map v8) w := by
  have := Src.cut (P := P) (As := As) hA hk h h1 h2
  simpa [List.map_take, List.map_drop] using this
end
section
variable {As : List SA} {A : SA} {v : Value}
theorem Cel.rds0 {sz n cap : Nat} {g off : Nat} {cs : List Value} (h : In (SA.rds sz (.slice (some ⟨g, off, none⟩) n cap) n cs) As) (hv : cs[0]? = some v) : Cel As ⟨g, off, none⟩ v := Cel.rdsB (j := 0) h hv
theorem Cel.owns0 {e sz n cap : Nat} {g off : Nat} {cs : List Value} (h : In (SA.owns e sz (.slice (some ⟨g, off, none⟩) n cap) n cs) As) (hv : cs[0]? = some v) : Cel As ⟨g, off, none⟩ v := Cel.owns (j := 0) h hv
end
/-- a piece of bytes that are read, beside the whole -/
theorem Ent.cutRds2 {L : List SA} {n cap lo hi : Nat} {a : Option Addr} {l : List UInt8} (h1 : lo ≤ hi) (h2 : hi ≤ n) :
    Ent (SA.rds 1 (.slice a n cap) n (l.map v8) :: L) (SA.rds 1 (cutV a cap lo hi 1) (hi - lo) (((l.drop lo).take (hi - lo)).map v8) :: SA.rds 1 (.slice a n cap) n (l.map v8) :: L) := by
  refine (Ent.dup Dup.rds).trans (Ent.imp fun w O R h => ⟨O, R, ⟨fun hn q hq => h.1 (by omega) q (own_cut (k := lo) (sz := 1) q ?_), ?_⟩, fun _ h => h, fun _ h => .inr h⟩)
  · revert hq
    unfold cutV
    generalize (if cap = lo then a else a.map (·.add (lo * 1))) = a'
    cases a' <;> simp [own]
  · have := h.2.cut h1 h2
    simpa [List.map_take, List.map_drop] using this
end Go.Proofs.Ytpmplnkempcmjaa

/- Lending: a function that only reads is handed what is owned. No program is named. -/
namespace Go.Proofs.Ytpmplnkempcmjaa
set_option linter.unusedVariables false
set_option linter.unusedSimpArgs false
open Go.RowKit
section
variable {P : Program} {N : Nat} {F : FE} {As Bs L L0 : List SA} {A B : SA} {w : World}
/-- B can be read where A is -/
def Lend1 (A B : SA) : Prop := ∀ w O R, A.p w O R → ∃ R', B.p w (fun _ => False) R' ∧ ∀ k, R' k → O k ∨ R k
theorem Lend1.same (h : Dup A) : Lend1 A A := fun w O R hp => ⟨R, h w O R hp, fun _ h => .inr h⟩
theorem Lend1.own {e sz n : Nat} {v : Value} {cs : List Value} : Lend1 (SA.owns e sz v n cs) (SA.rds sz v n cs) := fun w O R h => ⟨O, ⟨fun _ => h.1, h.2.rd⟩, fun _ h => .inl h⟩
theorem Lend1.rds {sz n : Nat} {v : Value} {cs : List Value} : Lend1 (SA.rds sz v n cs) (SA.rds sz v n cs) := Lend1.same Dup.rds
theorem Lend1.blk {b t : Nat} {cs : Array Value} : Lend1 (SA.blk b cs t) (SA.rblk b cs t) := fun w O R h => ⟨O, h, fun _ h => .inl h⟩
inductive Lend : List SA → List SA → Prop
  | nil : Lend [] []
  | cons {A B : SA} {As Bs : List SA} : Lend1 A B → Lend As Bs → Lend (A :: As) (B :: Bs)
theorem Lend.all (h : Lend As Bs) : Lend1 (SA.all As) (SA.all Bs) := by
  induction h with
  | nil => exact fun w O R _ => ⟨fun _ => False, trivial, fun _ h => h.elim⟩
  | cons h1 _ ih =>
    rintro w O R ⟨O1, R1, O2, R2, hA, hL, r1, r2, r3, r4⟩
    obtain ⟨R1', hA', e1⟩ := h1 _ _ _ hA
    obtain ⟨R2', hL', e2⟩ := ih _ _ _ hL
    refine ⟨fun k => R1' k ∨ R2' k, ⟨fun _ => False, R1', fun _ => False, R2', hA', hL', fun _ h => h.elim, fun _ h => h.elim, fun _ h => .inl h, fun _ h => .inr h⟩, ?_⟩
    rintro k (h | h)
    · exact (e1 k h).elim (fun h => .inl (r1 k h).1) (fun h => .inr (r3 k h))
    · exact (e2 k h).elim (fun h => .inl (r2 k h).1) (fun h => .inr (r4 k h))
/-- owned alone -/
def OO (A : SA) : Prop := ∀ w O R, A.p w O R → A.p w O (fun _ => False)
theorem OO.owns {e sz n : Nat} {v : Value} {cs : List Value} : OO (SA.owns e sz v n cs) := fun _ _ _ h => h
theorem OO.blk {b t : Nat} {cs : Array Value} : OO (SA.blk b cs t) := fun _ _ _ h => h
theorem OO.all : ∀ Ln : List SA, (∀ A, In A Ln → OO A) → OO (SA.all Ln)
  | [], _ => fun _ _ _ _ => trivial
  | A :: Ln, h => fun w O R ⟨O1, R1, O2, R2, hA, hL, r1, r2, r3, r4⟩ =>
    ⟨O1, fun _ => False, O2, fun _ => False, h A In.here w O1 R1 hA, OO.all Ln (fun B hB => h B (In.there hB)) w O2 R2 hL, fun k hk => ⟨(r1 k hk).1, (r1 k hk).2.1, id⟩, fun k hk => ⟨(r2 k hk).1, id⟩, fun _ h => h, fun _ h => h⟩
/-- it can be come back to -/
def SA.lease (Z : SA) : SA := ⟨fun w O R => ∃ O0 R0, Z.p w O0 R0 ∧ (∀ k, O0 k → R k) ∧ (∀ k, R0 k → R k), fun {w w' O R} ⟨O0, R0, h, h1, h2⟩ hg => ⟨O0, R0, Z.loc h (hg.mono fun k _ hk => .inr (hk.elim (h1 k) (h2 k))), h1, h2⟩⟩
theorem St.all {L : List SA} : St L w ↔ St [SA.all L] w := by
  constructor
  · intro h
    have := (Ent.doall L).st (by rw [List.append_nil]; exact h)
    exact this
  · intro h
    have := (Ent.unall (L := []) L).st h
    rwa [List.append_nil] at this
theorem Fn.lend {f : FuncId} {args : List Value} {R : Value → List SA → Prop} (hl : Lend As Bs) (h : Fn P f args Bs (fun v L' => ∃ Ln, R v Ln ∧ (∀ A, In A Ln → OO A) ∧ L' = Ln ++ Bs)) (L : List SA) :
    Fn P f args (As ++ L) (fun v L' => ∃ Ln, R v Ln ∧ L' = Ln ++ (As ++ L)) := fun X w hw => by
  -- Z: all there is
  have hZ : St [SA.star (SA.all As) (SA.star X (SA.all L))] w := by
    have h1 : Ent (X :: (As ++ L)) [SA.star (SA.all As) (SA.star X (SA.all L))] := by
      have e1 : Ent (X :: (As ++ L)) (X :: SA.all As :: L) := Ent.under _ (Ent.doall As)
      have e2 : Ent (X :: SA.all As :: L) (SA.all As :: X :: L) := Ent.swap
      have e3 : Ent (SA.all As :: X :: L) (SA.all As :: X :: [SA.all L]) := Ent.under _ (Ent.under _ (by have := Ent.doall (L := []) L; rwa [List.append_nil] at this))
      exact e1.trans (e2.trans (e3.trans ((Ent.unstarE.under _).trans Ent.unstarE)))
    exact h1.st hw
  generalize hz : SA.star (SA.all As) (SA.star X (SA.all L)) = Z at hZ
  obtain ⟨O0, R0, ⟨O1, R1, O2, R2, hA, -, r1, r2, r3, r4⟩, hb⟩ := hZ
  have hZp : Z.p w O1 R1 := hA
  have hlent : ∃ R', (SA.all Bs).p w (fun _ => False) R' ∧ ∀ k, R' k → O1 k ∨ R1 k := by
    rw [← hz] at hZp
    obtain ⟨O3, R3, O4, R4, hAs, -, q1, -, q3, -⟩ := hZp
    obtain ⟨R', g1, g2⟩ := hl.all _ _ _ hAs
    exact ⟨R', g1, fun k hk => (g2 k hk).elim (fun h => .inl (q1 k h).1) (fun h => .inr (q3 k h))⟩
  obtain ⟨R', hB, hR'⟩ := hlent
  have hbd : ∀ k, O1 k ∨ R1 k → k < w.heap.size := fun k hk => hb k (hk.imp (fun h => (r1 k h).1) (fun h => r3 k h))
  have hst : St (SA.lease Z :: Bs) w := by
    have : St [SA.star (SA.lease Z) (SA.all Bs)] w := ⟨fun _ => False, fun k => O1 k ∨ R1 k, ⟨fun _ => False, fun k => O1 k ∨ R1 k, fun _ => False, fun _ => False,
      ⟨fun _ => False, fun k => O1 k ∨ R1 k, fun _ => False, R', ⟨O1, R1, hA, fun _ h => .inl h, fun _ h => .inr h⟩, hB, fun _ h => h.elim, fun _ h => h.elim, fun _ h => h, hR'⟩, trivial, fun _ h => h.elim, fun _ h => h.elim, fun _ h => h, fun _ h => h.elim⟩, fun k hk => hk.elim (fun h => h.elim) (hbd k)⟩
    have h2 := Ent.starE.st this
    have h3 := ((Ent.unall (L := []) Bs).under _).st h2
    rwa [List.append_nil] at h3
  refine (h (SA.lease Z) w hst).mono ?_
  rintro e w' ⟨v, L', rfl, ⟨Ln, hR, hoo, rfl⟩, hw'⟩
  refine ⟨v, Ln ++ (As ++ L), rfl, ⟨Ln, hR, rfl⟩, ?_⟩
  -- the new ones and the lease
  have h1 : St [SA.lease Z, SA.all Ln] w' := by
    have e : Ent (SA.lease Z :: (Ln ++ Bs)) [SA.lease Z, SA.all Ln] := Ent.under _ ((Ent.doall Ln).trans (Ent.under _ Ent.nil))
    exact e.st hw'
  obtain ⟨O, R, ⟨O5, R5, O6, R6, ⟨O7, R7, hz7, g1, g2⟩, ⟨O8, R8, O9, R9, hn, -, s1, -, s3, -⟩, q1, q2, q3, q4⟩, hb'⟩ := h1
  have hn' := OO.all Ln hoo _ _ _ hn
  have h2 : St [SA.star (SA.all Ln) Z] w' := by
    refine ⟨fun k => O8 k ∨ O7 k, R7, ⟨fun k => O8 k ∨ O7 k, R7, fun _ => False, fun _ => False, ⟨O8, fun _ => False, O7, R7, hn', hz7, fun k hk => ⟨.inl hk, fun e => ?_, fun e => ?_⟩, fun k hk => ⟨.inr hk, id⟩, fun _ h => h.elim, fun _ h => h⟩, trivial, fun k hk => ⟨hk, id, id⟩, fun _ h => h.elim, fun _ h => h, fun _ h => h.elim⟩, ?_⟩
    · exact (q2 k (s1 k hk).1).2 (g1 k e)
    · exact (q2 k (s1 k hk).1).2 (g2 k e)
    · rintro k ((hk | hk) | hk)
      · exact hb' k (.inl (q2 k (s1 k hk).1).1)
      · exact hb' k (.inr (q3 k (g1 k hk)))
      · exact hb' k (.inr (q3 k (g2 k hk)))
  have e : Ent [SA.star (SA.all Ln) Z] (X :: (Ln ++ (As ++ L))) := by
    refine Ent.starE.trans ?_
    rw [← hz]
    refine (Ent.under _ Ent.starE).trans ?_
    refine (Ent.under _ (Ent.under _ Ent.starE)).trans ?_
    refine Ent.cons (A := X) (Pull.there (Pull.there Pull.here)) ?_
    refine (Ent.unall Ln).trans ?_
    have e1 : Ent [SA.all As, SA.all L] (As ++ L) := by
      refine (Ent.unall As).trans ?_
      have e0 : ∀ M : List SA, Ent (M ++ [SA.all L]) (M ++ L) := fun M => by
        induction M with
        | nil => have := Ent.unall (L := []) L; rwa [List.append_nil] at this
        | cons B M ih => exact ih.under B
      exact e0 As
    have e2 : ∀ M : List SA, Ent (M ++ [SA.all As, SA.all L]) (M ++ (As ++ L)) := fun M => by
      induction M with
      | nil => exact e1
      | cons B M ih => exact ih.under B
    exact e2 Ln
  exact e.st h2
/-- nothing new is handed back -/
theorem Fn.lend0 {f : FuncId} {args : List Value} {φ : Value → Prop} (hl : Lend As Bs) (h : Fn P f args Bs (fun v L' => φ v ∧ L' = Bs)) (L : List SA) : Fn P f args (As ++ L) (fun v L' => φ v ∧ L' = As ++ L) :=
  (Fn.lend (R := fun v Ln => φ v ∧ Ln = []) hl (h.mono fun v L' ⟨h1, h2⟩ => ⟨L', Ent.refl, [], ⟨h1, rfl⟩, fun A hA => (by cases hA), by rw [h2]; rfl⟩) L).mono fun v L' ⟨Ln, ⟨h1, h2⟩, h3⟩ => ⟨L', Ent.refl, h1, by rw [h3, h2]; rfl⟩
end
end Go.Proofs.Ytpmplnkempcmjaa

/- Equality of structs of scalars. No program is named. -/
namespace Go.Proofs.Ytpmplnkempcmjaa
set_option linter.unusedVariables false
set_option linter.unusedSimpArgs false
open Go.RowKit
section
variable {P : Program} {N : Nat} {F : FE} {As L L0 : List SA} {o : Oper} {x y z : Operand} {v : Value}
/-- these two of type t are equal, or not -/
def EqV (P : Program) (t : TypeId) (a b : Value) (r : Bool) : Prop := ∀ d w, (Op.equalIn (d + 1) t a b).run P w = .ok r w
theorem EqV.int {t : TypeId} {k k' : IntKind} {a b : Int} (h : P.underlying t = some (.int k')) : EqV P t (.int k a) (.int k b) (a == b) := fun d w => run_equalIn_int w d t k k' a b h
theorem EqV.bool {t : TypeId} {a b : Bool} (h : P.underlying t = some .bool) : EqV P t (.bool a) (.bool b) (a == b) := fun d w => run_equalIn_bool w d t a b h
theorem EqV.str {t : TypeId} {a b : ByteArray} (h : P.underlying t = some .string) : EqV P t (.string a) (.string b) (a.toList == b.toList) := fun d w => run_equalIn_string w d t a b h
inductive FEq (P : Program) (xs ys : Array Value) : List (Bool × Nat × Nat) → Bool → Prop
  | nil : FEq P xs ys [] true
  | cons {t off : Nat} {a b : Value} {r1 r2 : Bool} {l : List (Bool × Nat × Nat)} : Program.isSc P t = true → xs[off]? = some a → ys[off]? = some b → EqV P t a b r1 → FEq P xs ys l r2 → FEq P xs ys ((false, t, off) :: l) (r1 && r2)
theorem part_sc {t off : Nat} {xs : Array Value} {a : Value} (hs : Program.isSc P t = true) (h : xs[off]? = some a) (w : World) : (part t xs off).run P w = .ok a w := by
  unfold Program.isSc at hs
  cases hq : P.underlying t with
  | none => simp [hq] at hs
  | some d => cases d <;> simp [hq] at hs <;> simp [part, isAgg, run_underlying hq, h, go_sem]
theorem FEq.run {xs ys : Array Value} (d : Nat) (w : World) : ∀ (fs : List Field) (l : List (Bool × Nat × Nat)) (r : Bool), fs.map (fun f => (f.name == "_", f.type, f.offset)) = l → FEq P xs ys l r → (Op.eqFields (d + 1) xs ys fs).run P w = .ok r w
  | [], _, _, rfl, h => by cases h; simp [Op.eqFields, go_sem]
  | f :: fs, _, _, e, h => by
    subst e
    simp only [List.map_cons] at h
    generalize hn : (f.name == "_") = nm at h
    cases h with
    | cons h1 h2 h3 h4 h5 =>
      have hn' : f.name ≠ "_" := by simpa using hn
      have ih := FEq.run d w fs _ _ rfl h5
      simp only [Op.eqFields, hn', ne_eq, not_false_eq_true, if_true, Sem.run_bind, part_sc h1 h2, part_sc h1 h3, Result.andThen_ok, h4 d w]
      rename_i r1 r2
      cases r1
      · simp [go_sem]
      · simpa using ih
theorem Y.cmpSt {t yt : Nat} {xs ys : Array Value} {l : List (Bool × Nat × Nat)} {r neg : Bool} (ho : o.op = .binOp (if neg then .neq else .eql) t x y yt) (hf : P.underlying t = some (.struct (P.fieldsOf t))) (hp : P.stoodInHeld t = false) (hg : P.eqGuardType P.depth t = false)
    (hl : (P.fieldsOf t).toList.map (fun f => (f.name == "_", f.type, f.offset)) = l) (hx : evO F x = some (.agg xs)) (hy : evO F y = some (.agg ys)) (h : FEq P xs ys l r) : Yld P N o F As (.bool (if neg then !r else r)) := fun a w ha _ => by
  unfold execOp; rw [ho]
  replace hx := ha.eval hx
  replace hy := ha.eval hy
  generalize a.eval = ρ at hx hy ⊢
  have e : (Op.equalIn 10000 t (.agg xs) (.agg ys)).run P w = .ok r w := by rw [run_equalIn_struct w 9999 t xs ys hf hp]; exact FEq.run 9998 w _ _ _ hl h
  cases neg
  · simp only [Bool.false_eq_true, if_false, hx, hy, Sem.run_bind, run_eqGuard_agg w .eql t x y _ _ hg, Result.andThen_ok, run_eql_struct, e, Sem.run_pure]
  · simp only [if_true, hx, hy, Sem.run_bind, run_eqGuard_agg w .neq t x y _ _ hg, Result.andThen_ok, run_neq_struct, e, Sem.run_pure]
theorem Y.eqSt {t yt : Nat} {xs ys : Array Value} {l : List (Bool × Nat × Nat)} {r : Bool} (ho : o.op = .binOp .eql t x y yt) (hf : P.underlying t = some (.struct (P.fieldsOf t))) (hp : P.stoodInHeld t = false) (hg : P.eqGuardType P.depth t = false)
    (hl : (P.fieldsOf t).toList.map (fun f => (f.name == "_", f.type, f.offset)) = l) (hx : evO F x = some (.agg xs)) (hy : evO F y = some (.agg ys)) (h : FEq P xs ys l r) : Yld P N o F As (.bool r) := Y.cmpSt (neg := false) ho hf hp hg hl hx hy h
theorem Y.neSt {t yt : Nat} {xs ys : Array Value} {l : List (Bool × Nat × Nat)} {r : Bool} (ho : o.op = .binOp .neq t x y yt) (hf : P.underlying t = some (.struct (P.fieldsOf t))) (hp : P.stoodInHeld t = false) (hg : P.eqGuardType P.depth t = false)
    (hl : (P.fieldsOf t).toList.map (fun f => (f.name == "_", f.type, f.offset)) = l) (hx : evO F x = some (.agg xs)) (hy : evO F y = some (.agg ys)) (h : FEq P xs ys l r) : Yld P N o F As (.bool (!r)) := Y.cmpSt (neg := true) ho hf hp hg hl hx hy h
end
end Go.Proofs.Ytpmplnkempcmjaa

/- What slices.Delete does to a slice of one's own; a round of yield as one step. No program is named. -/
namespace Go.Proofs.Ytpmplnkempcmjaa
set_option linter.unusedVariables false
set_option linter.unusedSimpArgs false
open Go.RowKit
section
variable {κ : Ctx} {P : Program} {N : Nat} {F : FE} {As L L0 : List SA} {A : SA} {o : Oper} {x y z u : Operand} {v : Value}
/-- s[k:h:m] -/
theorem Y.slice3 {t e sz n cap k h m : Nat} {a : Option Addr} (ho : o.op = .slice t x (some y) (some z) (some u)) (hu : P.underlying t = some (.slice e)) (hs : (P.info? e).map (·.size) = some sz) (hx : evO F x = some (.slice a n cap)) (hy : evO F y = some (vN k)) (hz : evO F z = some (vN h)) (hm : evO F u = some (vN m)) (h1 : k ≤ h) (h2 : h ≤ m) (h3 : m ≤ cap) :
    Yld P N o F As (.slice (if m = k then a else a.map (·.add (k * sz))) (h - k) (m - k)) := fun a' w ha hw => by
  unfold execOp; rw [ho]
  replace hx := ha.eval hx
  replace hy := ha.eval hy
  replace hz := ha.eval hz
  replace hm := ha.eval hm
  generalize a'.eval = ρ at hx hy hz hm ⊢
  obtain ⟨inf, hinf, he⟩ := Option.map_eq_some_iff.1 hs
  subst he
  simp [hx, hy, hz, hm, Instr.sliceAt, Instr.slice, Instr.sliceBounds, Instr.sliceBound, asIntOf, run_underlying hu, sizeOf, typeInfo, hinf, go_sem, h1, h2, h3]
/-- 'append(s[:i], s[j:]...)' -/
theorem X.appendCut {t tx e e' sz bytes n cap g off i j : Nat} {z : Value} {cs : List Value} (ho : o.op = .call { callee := .builtin .append, args := #[x, y], argTypes := #[t, tx] }) (E : Elt P t e sz bytes z) (hk : P.underlying tx = some (.slice e'))
    (hx : evO F x = some (.slice (some ⟨g, off, none⟩) i cap)) (hp : Pull (SA.owns e sz (.slice (some ⟨g, off, none⟩) n cap) n cs) L L0) (hy : evO F y = some (cutV (some ⟨g, off, none⟩) cap j n sz)) (hij : i ≤ j) (hjn : j ≤ n) (hnc : n ≤ cap) :
    Eff P N o F L (fun v L' => v = .slice (some ⟨g, off, none⟩) (i + (n - j)) cap ∧ L' = SA.owns e sz (.slice (some ⟨g, off, none⟩) (i + (n - j)) cap) (i + (n - j)) (cs.take (i * sz) ++ cs.drop (j * sz)) :: L0) := by
  refine ⟨by rw [ho]; simp, fun Y a w ha hw K Q hK => ?_⟩
  unfold Oper.wp execOp; rw [ho]
  replace hx := ha.eval hx
  replace hy := ha.eval hy
  have hst := (Pull.there (B := Y) hp).st hw
  have hO := hst.isOwn
  have hsrc : Src P sz tx (cutV (some ⟨g, off, none⟩) cap j n sz) (n - j) (cs.drop (j * sz)) w := (hO.rd.drop hjn).src hk
  have hT : Own w e sz (.slice (some ⟨g, off, none⟩) i cap) i (cs.take (i * sz)) := hO.take (by omega)
  obtain ⟨w', hrun, r1, r2⟩ := run_app_fits (P := P) (ty := o.type) E hT hsrc (by omega)
  generalize a.eval = ρ at hx hy ⊢
  simp [resolve, invoke, builtin, hx, hy, hrun, Result.andThen, Oper.upon]
  exact hK _ _ _ ⟨rfl, rfl⟩ (St.up1 (hst.frS r2 fun O R hA => ⟨fun k hk => hA.1 k (by simpa [own] using hk), O, R, ⟨fun k hk => hA.1 k (by simpa [own] using hk), r1⟩, fun k hk => .inl hk, fun k hk => .inr (.inl hk)⟩))
/-- 'clear(s[m:k])', behind the end of s -/
theorem X.clearTail {t e sz bytes m k cap g off : Nat} {z : Value} {cs : List Value} (ho : o.op = .call { callee := .builtin .clear, args := #[x], argTypes := #[t] }) (E : Elt P t e sz bytes z)
    (hx : evO F x = some (cutV (some ⟨g, off, none⟩) cap m k sz)) (hp : Pull (SA.owns e sz (.slice (some ⟨g, off, none⟩) m cap) m cs) L L0) (h1 : m ≤ k) (h2 : k ≤ cap) (h3 : m < cap) :
    Eff P N o F L (fun _ L' => L' = SA.owns e sz (.slice (some ⟨g, off, none⟩) m cap) m cs :: L0) := by
  refine ⟨by rw [ho]; simp, fun Y a w ha hw K Q hK => ?_⟩
  unfold Oper.wp execOp; rw [ho]
  replace hx := ha.eval hx
  have hst := (Pull.there (B := Y) hp).st hw
  have hO := hst.isOwn
  have hcv : cutV (some ⟨g, off, none⟩) cap m k sz = .slice (some ⟨g, off + m * sz, none⟩) (k - m) (cap - m) := by
    unfold cutV; rw [if_neg (by omega)]; simp [Addr.add_lit]
  rw [hcv] at hx
  obtain ⟨arr, hb, hsz⟩ : ∃ arr, Blk w g arr e ∧ off + cap * sz ≤ arr.size := by
    rcases hO.val with ⟨hv, _⟩ | ⟨g', off', cap', arr, hv, hb1, _, _, e3, _⟩
    · cases hv
    · cases hv
      exact ⟨arr, hb1, e3⟩
  have hmul : m * sz + (k - m) * sz = k * sz := by rw [← Nat.add_mul]; congr 1; omega
  have hkc : k * sz ≤ cap * sz := Nat.mul_le_mul_right _ h2
  have hrun := run_clear_own (P := P) (ty := o.type) (cap := cap - m) (n := k - m) E hb (off := off + m * sz) (by omega) rfl
  have hl : (Builtin.zeroCells z.cells (k - m)).toList.length = (k - m) * sz := by
    obtain ⟨i, hi, hz0, rfl, rfl⟩ := info_parts E.hi
    rw [Array.length_toList, size_zeroCells, E.hz]
  have hfin := hO.beyond (Builtin.zeroCells z.cells (k - m)).toList (off + m * sz) (Nat.le_refl _) (by rw [hl]; omega)
  generalize a.eval = ρ at hx ⊢
  simp [resolve, invoke, builtin, hx, hrun, Result.andThen, Oper.upon]
  refine hK _ _ _ rfl (St.up1 (hst.frS (S := [g]) (Fr.setCells _ _ _ (Fr.refl _ _) (by simp)) fun O R hA => ⟨fun k hk => hA.1 k (by simpa [own] using hk), O, R, ⟨fun k hk => hA.1 k (by simpa [own] using hk), hfin⟩, fun k hk => .inl hk, fun k hk => .inr (.inl hk)⟩))
/-- a round, as one step -/
theorem X.yieldB {l n i : Nat} {arg : Nat → List Value} {S : Nat → SA} {Sx : SA} {f : Operand} {args : List Operand} {at' : Array TypeId} (hY : YS P l n arg S Sx) (ho : o.op = .call { callee := .value f, args := args.toArray, argTypes := at' })
    (hf : evO F f = some (yieldV l)) (hv : evA F args = some (arg i)) (hi : i < n) (hp : Pull (S i) L L0) :
    EffI P N o F L (fun v L' => ∃ bo, v = .bool bo ∧ L' = (cond bo (S (i + 1)) Sx) :: L0) := by
  intro r Y a w ha hw K Q hK
  refine X.yield hY ho hf hv hi hp r Y a w ha hw K Q fun v L' w' hR hw' => hK v L' w' ?_ hw'
  rcases hR with ⟨rfl, rfl⟩ | ⟨rfl, rfl⟩
  · exact ⟨true, rfl, rfl⟩
  · exact ⟨false, rfl, rfl⟩
/-- no way out of the loop -/
theorem Ent.self_app {L L' : List SA} (h : Ent L L') : Ent L (L' ++ []) := by rw [List.append_nil]; exact h
/-- a slice literal of one struct -/
theorem X.litD {α : Type} [Dat α] {t e sz : Nat} (x : α) {p : Operand} (ho : o.op = .buildSlice t 1 #[(0, p)]) (hu : P.underlying t = some (.slice e)) (hz : ((P.info? e).bind fun i => i.zero.map fun z => (i.size, z.cells.size)) = some (sz, sz)) (hp : evO F p = some (.agg (Dat.c x).toArray)) (hs : Dat.sz α = sz) (hn : sz ≤ 16777216) :
    Eff P N o F L (fun v L' => ∃ g, v = .slice (some ⟨g, 0, none⟩) 1 1 ∧ L' = SA.owns e sz (.slice (some ⟨g, 0, none⟩) 1 1) 1 (Dat.c x) :: L) :=
  X.litA (bytes := 0) (z := .nilFunc) (vs := [.agg (Dat.c x).toArray]) (cells := Dat.c x) (parts := [(0, p)]) ho hu hz (by simp [evA, hp]) rfl rfl (by omega) (hs ▸ Dat.pos) (by simp [maxLen]) (by simp [Value.cells, Dat.len, hs]) (by simp [Value.cells]) (List.all_eq_true.2 (Dat.one x))
/-- with others beside -/
theorem Ent.app {L1 L2 L : List SA} (h : Ent L1 L2) : Ent (L1 ++ L) (L2 ++ L) := by
  refine (Ent.doall L1).trans (Ent.trans (Ent.imp fun w O R hp => ?_) (Ent.unall L2))
  exact h w O R hp
theorem Ent.app2 {A B C D : SA} {L : List SA} (h : Ent [A, B, C] [D]) : Ent (A :: B :: C :: L) (D :: L) := Ent.app h
theorem Ent.rdssDrop {gs hs : List G} {L L1 : List SA} (hp : Pull (SA.rdss gs) L L1) (h : ∀ q ∈ hs, q ∈ gs) : Ent L (SA.rdss hs :: L1) := hp.ent.trans ((Ent.rdss_sub h).trans (Ent.under _ Ent.drop))
theorem Ent.addEl {α : Type} [Dat α] {x : α} {ys : List α} {L L1 L2 : List SA} (h1 : Pull (SA.rdss (ys.flatMap Dat.g)) L L1) (h2 : Pull (SA.dat x) L1 L2) : Ent L (SA.rdss ((ys ++ [x]).flatMap Dat.g) :: L2) := by
  rw [List.flatMap_append, List.flatMap_singleton]
  exact h1.ent.trans ((h2.ent.under _).trans Ent.rdssApp)
theorem Ent.mkOwn {α : Type} [Dat α] {e sz n cap : Nat} {a : Option Addr} {l : List α} {cells : List Value} {L L1 L2 : List SA} (h1 : Pull (SA.owns e sz (.slice a n cap) n cells) L L1) (h2 : Pull (SA.rdss (l.flatMap Dat.g)) L1 L2) (hn : l.length = n) (hs : Dat.sz α = sz) (hc : Dat.cs l = cells) : Ent L (SA.dat (⟨a, cap, l⟩ : Sl α) :: L2) :=
  h1.ent.trans ((h2.ent.under _).trans (Ent.freeze.trans (Ent.mkSl hn hs hc)))
theorem Ent.hang {α : Type} [Dat α] {a : Option Addr} {cap : Nat} {l : List α} {L L1 : List SA} (hp : Pull (SA.dat (⟨a, cap, l⟩ : Sl α)) L L1) : Ent L (SA.rdss (l.flatMap Dat.g) :: SA.dat (⟨a, cap, l⟩ : Sl α) :: L1) :=
  hp.ent.trans (Ent.rdss_sub fun q hq => List.mem_cons_of_mem _ hq)
end
end Go.Proofs.Ytpmplnkempcmjaa

/- Writing elements of a slice of one's own; more on data in cells. No program is named. -/
namespace Go.Proofs.Ytpmplnkempcmjaa
set_option linter.unusedVariables false
set_option linter.unusedSimpArgs false
open Go.RowKit
def wr (cs : List Value) (j : Nat) (vs : List Value) : List Value := cs.take j ++ vs ++ cs.drop (j + vs.length)
theorem wr_get (cs vs : List Value) (j i : Nat) (h : j + vs.length ≤ cs.length) : (wr cs j vs)[i]? = if j ≤ i ∧ i < j + vs.length then vs[i - j]? else cs[i]? := by
  have h1 : (cs.take j).length = j := by rw [List.length_take]; omega
  unfold wr
  by_cases h2 : i < j
  · rw [List.append_assoc, List.getElem?_append_left (by omega), List.getElem?_take, if_pos h2, if_neg (by omega)]
  · by_cases h3 : i < j + vs.length
    · rw [List.getElem?_append_left (by rw [List.length_append]; omega), List.getElem?_append_right (by omega), h1, if_pos (by omega)]
    · rw [List.getElem?_append_right (by rw [List.length_append]; omega), List.getElem?_drop, List.length_append, h1, if_neg (by omega)]
      congr 1; omega
theorem wr_len (cs vs : List Value) (j : Nat) (h : j + vs.length ≤ cs.length) : (wr cs j vs).length = cs.length := by
  unfold wr; simp only [List.length_append, List.length_take, List.length_drop]; omega
theorem Own.within {w : World} {e sz g off n cap : Nat} {cs : List Value} (h : Own w e sz (.slice (some ⟨g, off, none⟩) n cap) n cs) (vs : List Value) (h1 : ∀ v ∈ vs, v.oneCell' = true) (j : Nat) (hj : j + vs.length ≤ n * sz) :
    Own (w.setCells g (off + j) vs) e sz (.slice (some ⟨g, off, none⟩) n cap) n (wr cs j vs) := by
  have hl := h.len
  refine ⟨by rw [wr_len _ _ _ (by omega)]; exact hl, fun v hv => ?_, ?_⟩
  · unfold wr at hv
    rcases List.mem_append.1 hv with hv | hv
    · rcases List.mem_append.1 hv with hv | hv
      · exact h.one v (List.mem_of_mem_take hv)
      · exact h1 v hv
    · exact h.one v (List.mem_of_mem_drop hv)
  rcases h.val with ⟨hv, _⟩ | ⟨g', off', cap', arr, hv, hb, h2, h3, h4, h5⟩
  · cases hv
  · cases hv
    have hle : n * sz ≤ cap * sz := Nat.mul_le_mul_right _ h2
    refine .inr ⟨g, off, cap, _, rfl, hb.setCells vs w arr (off + j), h2, h3, by rw [writeAt_size]; exact h4, ?_⟩
    apply List.ext_getElem?
    intro i
    have hw := writeAt_get vs arr (off + j) (off + i) (by omega)
    rw [wr_get _ _ _ _ (by omega), ← h5]
    simp only [List.getElem?_take, List.getElem?_drop, Array.getElem?_toList, hw]
    by_cases hi : i < n * sz
    · rw [if_pos hi, if_pos hi]
      by_cases hij : j ≤ i ∧ i < j + vs.length
      · rw [if_pos (by omega), if_pos hij]; congr 1; omega
      · rw [if_neg (by omega), if_neg hij]
    · rw [if_neg hi, if_neg hi, if_neg (by omega)]
section
variable {P : Program} {N : Nat} {F : FE} {As L L0 : List SA} {o : Oper} {x y z : Operand} {v : Value}
/-- several cells stored through a slice of one's own -/
theorem X.storeOwnA {t e sz n cap g off q j m : Nat} {cs : List Value} {vs : Array Value} (ho : o.op = .store t x y) (hs : (P.info? t).map (·.size) = some m) (hmm : vs.size = m) (hx : evO F x = some (.pointer (some ⟨g, q, none⟩))) (hq : q = off + j) (hy : evO F y = some (.agg vs)) (h1 : ∀ v ∈ vs.toList, v.oneCell' = true)
    (hp : Pull (SA.owns e sz (.slice (some ⟨g, off, none⟩) n cap) n cs) L L0) {cs' : List Value} (hj : j + m ≤ n * sz) (he' : wr cs j vs.toList = cs') : Eff P N o F L (fun _ L' => L' = SA.owns e sz (.slice (some ⟨g, off, none⟩) n cap) n cs' :: L0) := by
  refine ⟨by rw [ho]; simp, fun Y a w ha hw K Q hK => ?_⟩
  subst he'; subst hq; subst hmm
  unfold Oper.wp execOp; rw [ho]
  replace hx := ha.eval hx
  replace hy := ha.eval hy
  simp only [hx, hy]
  have hst := (Pull.there (B := Y) hp).st hw
  have hO := hst.isOwn
  obtain ⟨inf, hinf, he⟩ := Option.map_eq_some_iff.1 hs
  have hlv : vs.toList.length = vs.size := by simp
  obtain ⟨arr, hb, hsz⟩ : ∃ arr, Blk w g arr e ∧ off + n * sz ≤ arr.size := by
    rcases hO.val with ⟨hv, _⟩ | ⟨g', off', cap', arr, hv, hb1, h2, _, e3, _⟩
    · cases hv
    · cases hv
      have := Nat.mul_le_mul_right sz h2
      exact ⟨arr, hb1, by omega⟩
  have hrun := run_storeCells_cells (P := P) g (off + j) vs.toList 0 w (fun i hi => by rw [hb.cell]; simp at hi ⊢; omega) (fun i hi => hb.frozen _) h1
  have hall : (Instr.storeAt t (.pointer (some ⟨g, off + j, none⟩)) (.agg vs)).run P w = .ok () (w.setCells g (off + j) vs.toList) := by
    unfold Instr.storeAt Instr.sureAddr storeVar
    simp only [Nat.add_zero] at hrun
    simp [sizeOf, typeInfo, hinf, he, Value.cells, hrun, go_sem]
  generalize Instr.storeAt t _ _ = s at hall ⊢
  simp [hall, go_sem]
  have hfin := hO.within vs.toList h1 j (by omega)
  exact hK _ _ _ rfl (St.up1 (hst.frS (S := [g]) (Fr.setCells _ _ _ (Fr.refl _ _) (by simp)) fun O R hA => ⟨fun k hk => hA.1 k (by simpa [own] using hk), O, R, ⟨fun k hk => hA.1 k (by simpa [own] using hk), hfin⟩, fun k hk => .inl hk, fun k hk => .inr (.inl hk)⟩))
end
theorem wr_mid (a b c c' d : List Value) (h : c.length = c'.length) : wr (a ++ (b ++ c) ++ d) (a.length + b.length) c' = a ++ (b ++ c') ++ d := by
  unfold wr
  have e1 : a ++ (b ++ c) ++ d = (a ++ b) ++ (c ++ d) := by simp [List.append_assoc]
  rw [e1, ← List.length_append, List.take_left, ← h, show (a ++ b).length + c.length = ((a ++ b) ++ c).length by simp [Nat.add_assoc], ← List.append_assoc (a ++ b) c d, List.drop_left]
  simp [List.append_assoc]
theorem set_wr (cs : List Value) (j : Nat) (v : Value) (h : j < cs.length) : cs.set j v = wr cs j [v] := by
  rw [wr, List.set_eq_take_append_cons_drop, if_pos h]; simp
theorem split_at {α : Type} {l : List α} {k : Nat} {x : α} (hx : l[k]? = some x) : l = l.take k ++ x :: l.drop (k + 1) := by
  obtain ⟨hi, he⟩ := List.getElem?_eq_some_iff.1 hx
  rw [← he, List.getElem_cons_drop, List.take_append_drop]
theorem set_at {α : Type} {l : List α} {k : Nat} {x : α} (y : α) (hx : l[k]? = some x) : l.set k y = l.take k ++ y :: l.drop (k + 1) := by
  obtain ⟨hi, he⟩ := List.getElem?_eq_some_iff.1 hx
  rw [List.set_eq_take_append_cons_drop, if_pos hi]
/-- the second half of an element, written over -/
theorem Dat.cs_snd {α β : Type} [Dat α] [Dat β] {l : List (α × β)} {k : Nat} {q : α} {y x : β} (hx : l[k]? = some (q, y)) : wr (Dat.cs l) (k * Dat.sz (α × β) + Dat.sz α) (Dat.c x) = Dat.cs (l.set k (q, x)) := by
  have hk : (l.take k).length = k := by have := (List.getElem?_eq_some_iff.1 hx).1; rw [List.length_take]; omega
  have e0 : Dat.cs l = Dat.cs (l.take k) ++ (Dat.c q ++ Dat.c y) ++ Dat.cs (l.drop (k + 1)) := by
    conv => lhs; rw [split_at hx]
    rw [Dat.cs_app, show (q, y) :: l.drop (k + 1) = [(q, y)] ++ l.drop (k + 1) from rfl, Dat.cs_app, Dat.cs_one, ← List.append_assoc]; rfl
  have e1 : Dat.cs (l.set k (q, x)) = Dat.cs (l.take k) ++ (Dat.c q ++ Dat.c x) ++ Dat.cs (l.drop (k + 1)) := by
    rw [set_at _ hx, Dat.cs_app, show (q, x) :: l.drop (k + 1) = [(q, x)] ++ l.drop (k + 1) from rfl, Dat.cs_app, Dat.cs_one, ← List.append_assoc]; rfl
  have e2 : k * Dat.sz (α × β) + Dat.sz α = (Dat.cs (l.take k)).length + (Dat.c q).length := by rw [Dat.cs_len, hk, Dat.len]
  rw [e0, e1, e2, wr_mid _ _ _ _ _ (by rw [Dat.len, Dat.len])]
/-- an element, written over -/
theorem Dat.cs_set {α : Type} [Dat α] {l : List α} {k : Nat} {y x : α} (hx : l[k]? = some y) : wr (Dat.cs l) (k * Dat.sz α) (Dat.c x) = Dat.cs (l.set k x) := by
  have hk : (l.take k).length = k := by have := (List.getElem?_eq_some_iff.1 hx).1; rw [List.length_take]; omega
  have e0 : Dat.cs l = Dat.cs (l.take k) ++ ([] ++ Dat.c y) ++ Dat.cs (l.drop (k + 1)) := by
    conv => lhs; rw [split_at hx]
    rw [Dat.cs_app, show y :: l.drop (k + 1) = [y] ++ l.drop (k + 1) from rfl, Dat.cs_app, Dat.cs_one, ← List.append_assoc]; rfl
  have e1 : Dat.cs (l.set k x) = Dat.cs (l.take k) ++ ([] ++ Dat.c x) ++ Dat.cs (l.drop (k + 1)) := by
    rw [set_at _ hx, Dat.cs_app, show x :: l.drop (k + 1) = [x] ++ l.drop (k + 1) from rfl, Dat.cs_app, Dat.cs_one, ← List.append_assoc]; rfl
  have e2 : k * Dat.sz α = (Dat.cs (l.take k)).length + ([] : List Value).length := by rw [Dat.cs_len, hk]; rfl
  rw [e0, e1, e2, wr_mid _ _ _ _ _ (by rw [Dat.len, Dat.len])]
theorem Dat.cs_drop {α : Type} [Dat α] (l : List α) (k : Nat) : Dat.cs (l.drop k) = (Dat.cs l).drop (k * Dat.sz α) := by
  have h : Dat.cs l = Dat.cs (l.take k) ++ Dat.cs (l.drop k) := by rw [← Dat.cs_app, List.take_append_drop]
  by_cases hk : k ≤ l.length
  · have hl : (Dat.cs (l.take k)).length = k * Dat.sz α := by rw [Dat.cs_len, List.length_take, Nat.min_eq_left hk]
    rw [h, ← hl, List.drop_left]
  · rw [List.drop_of_length_le (by omega), List.drop_of_length_le (by rw [Dat.cs_len]; exact Nat.mul_le_mul_right _ (by omega)), Dat.cs_eq]; rfl
theorem Cel.atS {α : Type} [Dat α] {As : List SA} {A : SA} {g off n cap i : Nat} {l : List α} {x : α} {v : Value} (hA : Reads A 1 (.slice (some ⟨g, off, none⟩) n cap) n (Dat.cs l)) (h : In A As) (hx : l[i]? = some x) (hv : (Dat.c x)[0]? = some v) (hs : Dat.sz α = 1 := by rfl) : Cel As ⟨g, off + i, none⟩ v := by
  have := Cel.at0 hA h hx hv hs
  rwa [Nat.mul_one] at this
theorem beqB (a b : ByteArray) : (a == b) = decide (a = b) := by
  rw [Bool.eq_iff_iff, decide_eq_true_eq]
  constructor
  · intro h
    have h2 : (a.data == b.data) = true := h
    have := eq_of_beq h2
    cases a; cases b; simp_all
  · rintro rfl
    show (a.data == a.data) = true
    exact beq_self_eq_true _
instance : LawfulBEq ByteArray where
  eq_of_beq {a b} h := by rw [beqB] at h; simpa using h
  rfl {a} := by rw [beqB]; simp
section
variable {P : Program} {N : Nat} {F : FE} {As : List SA} {o : Oper} {x y : Operand}
theorem toList_beq (a b : ByteArray) : (a.toList == b.toList) = (a == b) := by
  rw [beqB, Bool.eq_iff_iff, beq_iff_eq, decide_eq_true_eq]
  constructor
  · intro h
    have h1 := ByteArray.toList_eq a; have h2 := ByteArray.toList_eq b
    rw [h1, h2] at h
    cases a; cases b; simp_all
  · rintro rfl; rfl
theorem Y.cmpB {t yt : Nat} {a b : ByteArray} {neg : Bool} (ho : o.op = .binOp (if neg then .neq else .eql) t x y yt) (hx : evO F x = some (.string a)) (hy : evO F y = some (.string b)) : Yld P N o F As (.bool (if neg then !(a == b) else (a == b))) := fun c w ha _ => by
  unfold execOp; rw [ho]
  replace hx := ha.eval hx
  replace hy := ha.eval hy
  generalize c.eval = ρ at hx hy ⊢
  cases neg
  · simp [hx, hy, eqGuard, binOp, Op.stringOp, toList_beq, go_sem]
  · simp [hx, hy, eqGuard, binOp, Op.stringOp, toList_beq, go_sem]
theorem Y.eqB {t yt : Nat} {a b : ByteArray} (ho : o.op = .binOp .eql t x y yt) (hx : evO F x = some (.string a)) (hy : evO F y = some (.string b)) : Yld P N o F As (.bool (a == b)) := Y.cmpB (neg := false) ho hx hy
theorem Y.neB {t yt : Nat} {a b : ByteArray} (ho : o.op = .binOp .neq t x y yt) (hx : evO F x = some (.string a)) (hy : evO F y = some (.string b)) : Yld P N o F As (.bool (!(a == b))) := Y.cmpB (neg := true) ho hx hy
end
theorem Cels.snd {α β : Type} [Dat α] [Dat β] {As : List SA} {A : SA} {g off n cap sz i : Nat} {l : List (α × β)} {q : α} {y : β} (hA : Reads A sz (.slice (some ⟨g, off, none⟩) n cap) n (Dat.cs l)) (h : In A As) (hx : l[i]? = some (q, y)) (h1 : Dat.sz α = 1) (hs : Dat.sz (α × β) = sz := by rfl) : Cels As ⟨g, off + (i * sz + 1), none⟩ (Dat.c y) := fun w hw j u hj => by
  have hk : (Dat.c (q, y))[1 + j]? = some u := by
    show (Dat.c q ++ Dat.c y)[1 + j]? = some u
    rw [List.getElem?_append_right (by rw [Dat.len]; omega), Dat.len, h1, show 1 + j - 1 = j by omega]; exact hj
  have := Cel.at hA h hx hk hs w hw
  rw [Addr.add_lit, Nat.add_assoc, Nat.add_assoc]; exact this
theorem br_rem8 {x y : UInt8} (h : y ≠ 0) : BR .rem .u8 x.toNat .u8 y.toNat (v8 (x % y)) := fun P w t => by
  have h0 : y.toNat ≠ 0 := fun e => h (UInt8.toNat_inj.1 e)
  simp [binOp, Op.intDiv, h0, go_sem]
  try rw [Int.tmod_eq_emod_of_nonneg (by omega)]
  try rfl
/-- an int32 -/
structure J32 where
  n : Int
instance : Dat J32 := Dat.scalar (fun x => .int .i32 x.n) ⟨0⟩ fun _ => rfl
theorem Ent.rdss0' {gs : List G} {L : List SA} (h : gs = []) : Ent L (SA.rdss gs :: L) := by rw [h]; exact Ent.rdss0
theorem Ent.exI {α : Type} {f : α → SA} {L L' : List SA} (h : ∀ x, Ent (f x :: L) L') : Ent (SA.ex f :: L) L' := fun w O R hp => by
  obtain ⟨O1, R1, O2, R2, ⟨x, hx⟩, hL, r⟩ := hp
  exact h x w O R ⟨O1, R1, O2, R2, hx, hL, r⟩
/-- bytes of one's own, from now on read -/
theorem Ent.bytesD {e : Nat} {a : Option Addr} {n cap : Nat} {l : List UInt8} {L L1 : List SA} (h : Pull (SA.owns e 1 (.slice a n cap) n (l.map v8)) L L1) (hn : l.length = n) : Ent L (SA.dat (⟨a, cap, l⟩ : Bs) :: L1) := h.ent.trans (Ent.freeze.trans (Ent.mkBytes hn))
/-- scalars of one's own, from now on read -/
theorem Ent.scalD {α : Type} [Dat α] {e : Nat} {a : Option Addr} {n cap : Nat} {l : List α} {L L1 : List SA} (h : Pull (SA.owns e 1 (.slice a n cap) n (Dat.cs l)) L L1) (hn : l.length = n) (hs : Dat.sz α = 1) (hg : ∀ x : α, Dat.g x = []) : Ent L (SA.dat (⟨a, cap, l⟩ : Sl α) :: L1) := by
  have e0 : l.flatMap Dat.g = [] := by rw [List.flatMap_eq_nil_iff]; intro x _; exact hg x
  refine h.ent.trans (Ent.freeze.trans ((Ent.under _ (Ent.rdss0' e0)).trans (Ent.mkSl hn hs rfl)))
/-- two that are read, as a pair -/
theorem Ent.pairD {α β : Type} [Dat α] [Dat β] {x : α} {y : β} {L L1 L2 : List SA} (h1 : Pull (SA.dat x) L L1) (h2 : Pull (SA.dat y) L1 L2) : Ent L (SA.dat (x, y) :: L2) := h1.ent.trans ((h2.ent.under _).trans Ent.rdssApp)
/-- no bytes -/
theorem Ent.nilBs {L : List SA} : Ent L (SA.dat (⟨none, 0, []⟩ : Bs) :: L) := (Ent.nilOwn 0 1).trans (Ent.freeze.trans (Ent.mkBytes (l := []) rfl))
-- what lies under a key
theorem ne_take {κ ν : Type} {l : List (κ × ν)} {q : κ} {i : Nat} {x : κ × ν} (h : ∀ y ∈ l.take i, ¬ y.1 = q) (hx : l[i]? = some x) (hq : ¬ x.1 = q) : ∀ y ∈ l.take (i + 1), ¬ y.1 = q := by
  intro y hy
  rw [List.take_add_one, hx] at hy
  rcases List.mem_append.1 hy with hy | hy
  · exact h y hy
  · simp at hy; subst hy; exact hq
section
variable {κ ν : Type} [BEq κ]
def Fi (l : List (κ × ν)) (q : κ) : Option Nat := l.findIdx? fun e => e.1 == q
def iv (r : Option Nat) : Int := r.elim (-1) fun k => (k : Int)
def tput (most : Nat) (l : List (κ × ν)) (q : κ) (x : ν) : List (κ × ν) × Bool := match Fi l q with
  | some k => (l.set k (q, x), true)
  | none => if l.length = most then (l, false) else (l ++ [(q, x)], true)
def tget (d : ν) (l : List (κ × ν)) (q : κ) : ν × Bool := match l.find? (fun e => e.1 == q) with
  | some e => (e.2, true)
  | none => (d, false)
theorem Fi_some [LawfulBEq κ] {l : List (κ × ν)} {q : κ} {k : Nat} (h : Fi l q = some k) : k < l.length ∧ ∃ x, l[k]? = some (q, x) ∧ ∀ d, tget d l q = (x, true) := by
  obtain ⟨hk, hp, hj⟩ := List.findIdx?_eq_some_iff_getElem.1 h
  refine ⟨hk, l[k].2, ?_, fun d => ?_⟩
  · rw [List.getElem?_eq_getElem hk]; congr 1; exact Prod.ext (by simpa using hp) rfl
  · have : l.find? (fun e => e.1 == q) = some l[k] := by
      rw [List.find?_eq_some_iff_getElem]
      exact ⟨hp, k, hk, rfl, fun j hj' => by simpa using hj j hj'⟩
    unfold tget; rw [this]
theorem Fi_none {l : List (κ × ν)} {q : κ} (h : Fi l q = none) (d : ν) : tget d l q = (d, false) := by
  have : l.find? (fun e => e.1 == q) = none := by
    rw [List.find?_eq_none]
    intro e he
    have := List.findIdx?_eq_none_iff.1 h e he
    simp [this]
  unfold tget; rw [this]
theorem Fi_at [LawfulBEq κ] {l : List (κ × ν)} {q : κ} {k : Nat} {x : κ × ν} (h : ∀ y ∈ l.take k, ¬ y.1 = q) (hx : l[k]? = some x) (hq : x.1 = q) : Fi l q = some k := by
  obtain ⟨hk, hxe⟩ := List.getElem?_eq_some_iff.1 hx
  unfold Fi
  rw [List.findIdx?_eq_some_iff_getElem]
  refine ⟨hk, by rw [hxe]; simpa using hq, fun j hj => ?_⟩
  have := h (l[j]) (by rw [List.mem_take_iff_getElem]; exact ⟨j, by omega, rfl⟩)
  simpa using this
theorem Fi_no [LawfulBEq κ] {l : List (κ × ν)} {q : κ} (h : ∀ y ∈ l, ¬ y.1 = q) : Fi l q = none := by
  unfold Fi; rw [List.findIdx?_eq_none_iff]; intro y hy; simpa using h y hy
theorem tput_some {most : Nat} {l : List (κ × ν)} {q : κ} {x : ν} {k : Nat} (h : Fi l q = some k) : tput most l q x = (l.set k (q, x), true) := by unfold tput; rw [h]
theorem tput_full {most : Nat} {l : List (κ × ν)} {q : κ} {x : ν} (h : Fi l q = none) (hm : l.length = most) : tput most l q x = (l, false) := by unfold tput; rw [h]; exact if_pos hm
theorem tput_new {most : Nat} {l : List (κ × ν)} {q : κ} {x : ν} (h : Fi l q = none) (hm : ¬ l.length = most) : tput most l q x = (l ++ [(q, x)], true) := by unfold tput; rw [h]; exact if_neg hm
def tdrop (l : List (κ × ν)) (q : κ) : List (κ × ν) × Bool := match Fi l q with
  | some k => (l.eraseIdx k, true)
  | none => (l, false)
theorem tdrop_some {l : List (κ × ν)} {q : κ} {k : Nat} (h : Fi l q = some k) : tdrop l q = (l.eraseIdx k, true) := by unfold tdrop; rw [h]
theorem tdrop_none {l : List (κ × ν)} {q : κ} (h : Fi l q = none) : tdrop l q = (l, false) := by unfold tdrop; rw [h]
theorem tput_len {most : Nat} {l : List (κ × ν)} {q : κ} {x : ν} (h : l.length ≤ most) : (tput most l q x).1.length ≤ most := by
  unfold tput
  split
  · simpa using h
  · split
    · exact h
    · simp; omega
end
end Go.Proofs.Ytpmplnkempcmjaa

/- The printed walks' side goals under short names. No program is named. -/
namespace Go.Proofs.Ytpmplnkempcmjaa
set_option linter.unusedVariables false
set_option linter.unusedSimpArgs false
open Go.RowKit
section
variable {As L L' : List SA} {A : SA} {p : Addr} {v : Value} {φ : Prop}
theorem pul (h : Pull A L L' := by first | (with_reducible (repeat first | apply Pull.here | apply Pull.there); done) | (repeat first | apply Pull.here | apply Pull.there)) : Pull A L L' := h
theorem inn (h : In A L := by with_reducible (repeat first | apply In.here | apply In.there)) : In A L := h
theorem lnn (h : φ := by ((try simp only [List.length_set, List.length_map, List.length_append, List.length_replicate, List.size_toArray, List.length_cons, List.length_nil, Array.size_setIfInBounds]); (first | omega | exact of_decide_eq_true (by rfl)))) : φ := h
theorem szz (h : φ := by ((try simp only [List.size_toArray, List.length_set, List.length_map, List.length_append, List.length_replicate, List.length_cons, List.length_nil]); (first | done | omega | (simp [*]; done)))) : φ := h
theorem nqq (h : φ := by ((try simp only [Nat.zero_add, Nat.add_zero, Nat.mul_one, Nat.one_mul, Nat.mul_zero, Nat.zero_mul]) <;> rfl)) : φ := h
theorem ett (h : Ent L L' := by (repeat first | (with_reducible apply Ent.refl) | (with_reducible apply Ent.nil) | refine Ent.cons (by first | (with_reducible (repeat first | apply Pull.here | apply Pull.there); done) | (repeat first | apply Pull.here | apply Pull.there)) ?_ | refine Ent.skip ?_)) : Ent L L' := h
theorem cel8 (h : Cel As p v := by first | exact Cel.at0 Reads.owns (by with_reducible (repeat first | apply In.here | apply In.there)) (by assumption) (by rfl) | exact Cel.at Reads.owns (by with_reducible (repeat first | apply In.here | apply In.there)) (by assumption) (by rfl) | exact Cel.datAt0 (by with_reducible (repeat first | apply In.here | apply In.there)) (by assumption) (by rfl) | exact Cel.datAt (by with_reducible (repeat first | apply In.here | apply In.there)) (by assumption) (by rfl) | exact Cel.datAtS (by with_reducible (repeat first | apply In.here | apply In.there)) (by assumption) (by rfl) | exact Cel.blk (by with_reducible (repeat first | apply In.here | apply In.there)) (by first | exact getM (d := (0 : UInt8)) (by ((try simp only [List.length_set, List.length_map, List.length_append, List.length_replicate, List.size_toArray, List.length_cons, List.length_nil, Array.size_setIfInBounds]); (first | omega | exact of_decide_eq_true (by rfl)))) | rfl) | exact Cel.rblk (by with_reducible (repeat first | apply In.here | apply In.there)) (by first | exact getM (d := (0 : UInt8)) (by ((try simp only [List.length_set, List.length_map, List.length_append, List.length_replicate, List.size_toArray, List.length_cons, List.length_nil, Array.size_setIfInBounds]); (first | omega | exact of_decide_eq_true (by rfl)))) | rfl) | exact Cel.rds (by with_reducible (repeat first | apply In.here | apply In.there)) (getML (d := (0 : UInt8)) (by ((try simp only [List.length_set, List.length_map, List.length_append, List.length_replicate, List.size_toArray, List.length_cons, List.length_nil, Array.size_setIfInBounds]); (first | omega | exact of_decide_eq_true (by rfl))))) | exact Cel.rdsB (by with_reducible (repeat first | apply In.here | apply In.there)) (getML (d := (0 : UInt8)) (by ((try simp only [List.length_set, List.length_map, List.length_append, List.length_replicate, List.size_toArray, List.length_cons, List.length_nil, Array.size_setIfInBounds]); (first | omega | exact of_decide_eq_true (by rfl))))) | exact Cel.owns (by with_reducible (repeat first | apply In.here | apply In.there)) (getML (d := (0 : UInt8)) (by ((try simp only [List.length_set, List.length_map, List.length_append, List.length_replicate, List.size_toArray, List.length_cons, List.length_nil, Array.size_setIfInBounds]); (first | omega | exact of_decide_eq_true (by rfl))))) | exact Cel.reads (by assumption) (by with_reducible (repeat first | apply In.here | apply In.there)) (getML (d := (0 : UInt8)) (by ((try simp only [List.length_set, List.length_map, List.length_append, List.length_replicate, List.size_toArray, List.length_cons, List.length_nil, Array.size_setIfInBounds]); (first | omega | exact of_decide_eq_true (by rfl))))) | exact Cel.rds0 (by with_reducible (repeat first | apply In.here | apply In.there)) (getML (d := (0 : UInt8)) (by ((try simp only [List.length_set, List.length_map, List.length_append, List.length_replicate, List.size_toArray, List.length_cons, List.length_nil, Array.size_setIfInBounds]); (first | omega | exact of_decide_eq_true (by rfl))))) | exact Cel.owns0 (by with_reducible (repeat first | apply In.here | apply In.there)) (getML (d := (0 : UInt8)) (by ((try simp only [List.length_set, List.length_map, List.length_append, List.length_replicate, List.size_toArray, List.length_cons, List.length_nil, Array.size_setIfInBounds]); (first | omega | exact of_decide_eq_true (by rfl)))))) : Cel As p v := h
theorem cel16 (h : Cel As p v := by first | exact Cel.at0 Reads.owns (by with_reducible (repeat first | apply In.here | apply In.there)) (by assumption) (by rfl) | exact Cel.at Reads.owns (by with_reducible (repeat first | apply In.here | apply In.there)) (by assumption) (by rfl) | exact Cel.datAt0 (by with_reducible (repeat first | apply In.here | apply In.there)) (by assumption) (by rfl) | exact Cel.datAt (by with_reducible (repeat first | apply In.here | apply In.there)) (by assumption) (by rfl) | exact Cel.datAtS (by with_reducible (repeat first | apply In.here | apply In.there)) (by assumption) (by rfl) | exact Cel.blk (by with_reducible (repeat first | apply In.here | apply In.there)) (by first | exact getM (d := (0 : UInt16)) (by ((try simp only [List.length_set, List.length_map, List.length_append, List.length_replicate, List.size_toArray, List.length_cons, List.length_nil, Array.size_setIfInBounds]); (first | omega | exact of_decide_eq_true (by rfl)))) | rfl) | exact Cel.rblk (by with_reducible (repeat first | apply In.here | apply In.there)) (by first | exact getM (d := (0 : UInt16)) (by ((try simp only [List.length_set, List.length_map, List.length_append, List.length_replicate, List.size_toArray, List.length_cons, List.length_nil, Array.size_setIfInBounds]); (first | omega | exact of_decide_eq_true (by rfl)))) | rfl) | exact Cel.rds (by with_reducible (repeat first | apply In.here | apply In.there)) (getML (d := (0 : UInt16)) (by ((try simp only [List.length_set, List.length_map, List.length_append, List.length_replicate, List.size_toArray, List.length_cons, List.length_nil, Array.size_setIfInBounds]); (first | omega | exact of_decide_eq_true (by rfl))))) | exact Cel.rdsB (by with_reducible (repeat first | apply In.here | apply In.there)) (getML (d := (0 : UInt16)) (by ((try simp only [List.length_set, List.length_map, List.length_append, List.length_replicate, List.size_toArray, List.length_cons, List.length_nil, Array.size_setIfInBounds]); (first | omega | exact of_decide_eq_true (by rfl))))) | exact Cel.owns (by with_reducible (repeat first | apply In.here | apply In.there)) (getML (d := (0 : UInt16)) (by ((try simp only [List.length_set, List.length_map, List.length_append, List.length_replicate, List.size_toArray, List.length_cons, List.length_nil, Array.size_setIfInBounds]); (first | omega | exact of_decide_eq_true (by rfl))))) | exact Cel.reads (by assumption) (by with_reducible (repeat first | apply In.here | apply In.there)) (getML (d := (0 : UInt16)) (by ((try simp only [List.length_set, List.length_map, List.length_append, List.length_replicate, List.size_toArray, List.length_cons, List.length_nil, Array.size_setIfInBounds]); (first | omega | exact of_decide_eq_true (by rfl))))) | exact Cel.rds0 (by with_reducible (repeat first | apply In.here | apply In.there)) (getML (d := (0 : UInt16)) (by ((try simp only [List.length_set, List.length_map, List.length_append, List.length_replicate, List.size_toArray, List.length_cons, List.length_nil, Array.size_setIfInBounds]); (first | omega | exact of_decide_eq_true (by rfl))))) | exact Cel.owns0 (by with_reducible (repeat first | apply In.here | apply In.there)) (getML (d := (0 : UInt16)) (by ((try simp only [List.length_set, List.length_map, List.length_append, List.length_replicate, List.size_toArray, List.length_cons, List.length_nil, Array.size_setIfInBounds]); (first | omega | exact of_decide_eq_true (by rfl)))))) : Cel As p v := h
theorem cel32 (h : Cel As p v := by first | exact Cel.at0 Reads.owns (by with_reducible (repeat first | apply In.here | apply In.there)) (by assumption) (by rfl) | exact Cel.at Reads.owns (by with_reducible (repeat first | apply In.here | apply In.there)) (by assumption) (by rfl) | exact Cel.datAt0 (by with_reducible (repeat first | apply In.here | apply In.there)) (by assumption) (by rfl) | exact Cel.datAt (by with_reducible (repeat first | apply In.here | apply In.there)) (by assumption) (by rfl) | exact Cel.datAtS (by with_reducible (repeat first | apply In.here | apply In.there)) (by assumption) (by rfl) | exact Cel.blk (by with_reducible (repeat first | apply In.here | apply In.there)) (by first | exact getM (d := (0 : UInt32)) (by ((try simp only [List.length_set, List.length_map, List.length_append, List.length_replicate, List.size_toArray, List.length_cons, List.length_nil, Array.size_setIfInBounds]); (first | omega | exact of_decide_eq_true (by rfl)))) | rfl) | exact Cel.rblk (by with_reducible (repeat first | apply In.here | apply In.there)) (by first | exact getM (d := (0 : UInt32)) (by ((try simp only [List.length_set, List.length_map, List.length_append, List.length_replicate, List.size_toArray, List.length_cons, List.length_nil, Array.size_setIfInBounds]); (first | omega | exact of_decide_eq_true (by rfl)))) | rfl) | exact Cel.rds (by with_reducible (repeat first | apply In.here | apply In.there)) (getML (d := (0 : UInt32)) (by ((try simp only [List.length_set, List.length_map, List.length_append, List.length_replicate, List.size_toArray, List.length_cons, List.length_nil, Array.size_setIfInBounds]); (first | omega | exact of_decide_eq_true (by rfl))))) | exact Cel.rdsB (by with_reducible (repeat first | apply In.here | apply In.there)) (getML (d := (0 : UInt32)) (by ((try simp only [List.length_set, List.length_map, List.length_append, List.length_replicate, List.size_toArray, List.length_cons, List.length_nil, Array.size_setIfInBounds]); (first | omega | exact of_decide_eq_true (by rfl))))) | exact Cel.owns (by with_reducible (repeat first | apply In.here | apply In.there)) (getML (d := (0 : UInt32)) (by ((try simp only [List.length_set, List.length_map, List.length_append, List.length_replicate, List.size_toArray, List.length_cons, List.length_nil, Array.size_setIfInBounds]); (first | omega | exact of_decide_eq_true (by rfl))))) | exact Cel.reads (by assumption) (by with_reducible (repeat first | apply In.here | apply In.there)) (getML (d := (0 : UInt32)) (by ((try simp only [List.length_set, List.length_map, List.length_append, List.length_replicate, List.size_toArray, List.length_cons, List.length_nil, Array.size_setIfInBounds]); (first | omega | exact of_decide_eq_true (by rfl))))) | exact Cel.rds0 (by with_reducible (repeat first | apply In.here | apply In.there)) (getML (d := (0 : UInt32)) (by ((try simp only [List.length_set, List.length_map, List.length_append, List.length_replicate, List.size_toArray, List.length_cons, List.length_nil, Array.size_setIfInBounds]); (first | omega | exact of_decide_eq_true (by rfl))))) | exact Cel.owns0 (by with_reducible (repeat first | apply In.here | apply In.there)) (getML (d := (0 : UInt32)) (by ((try simp only [List.length_set, List.length_map, List.length_append, List.length_replicate, List.size_toArray, List.length_cons, List.length_nil, Array.size_setIfInBounds]); (first | omega | exact of_decide_eq_true (by rfl)))))) : Cel As p v := h
theorem cel64 (h : Cel As p v := by first | exact Cel.at0 Reads.owns (by with_reducible (repeat first | apply In.here | apply In.there)) (by assumption) (by rfl) | exact Cel.at Reads.owns (by with_reducible (repeat first | apply In.here | apply In.there)) (by assumption) (by rfl) | exact Cel.datAt0 (by with_reducible (repeat first | apply In.here | apply In.there)) (by assumption) (by rfl) | exact Cel.datAt (by with_reducible (repeat first | apply In.here | apply In.there)) (by assumption) (by rfl) | exact Cel.datAtS (by with_reducible (repeat first | apply In.here | apply In.there)) (by assumption) (by rfl) | exact Cel.blk (by with_reducible (repeat first | apply In.here | apply In.there)) (by first | exact getM (d := (0 : UInt64)) (by ((try simp only [List.length_set, List.length_map, List.length_append, List.length_replicate, List.size_toArray, List.length_cons, List.length_nil, Array.size_setIfInBounds]); (first | omega | exact of_decide_eq_true (by rfl)))) | rfl) | exact Cel.rblk (by with_reducible (repeat first | apply In.here | apply In.there)) (by first | exact getM (d := (0 : UInt64)) (by ((try simp only [List.length_set, List.length_map, List.length_append, List.length_replicate, List.size_toArray, List.length_cons, List.length_nil, Array.size_setIfInBounds]); (first | omega | exact of_decide_eq_true (by rfl)))) | rfl) | exact Cel.rds (by with_reducible (repeat first | apply In.here | apply In.there)) (getML (d := (0 : UInt64)) (by ((try simp only [List.length_set, List.length_map, List.length_append, List.length_replicate, List.size_toArray, List.length_cons, List.length_nil, Array.size_setIfInBounds]); (first | omega | exact of_decide_eq_true (by rfl))))) | exact Cel.rdsB (by with_reducible (repeat first | apply In.here | apply In.there)) (getML (d := (0 : UInt64)) (by ((try simp only [List.length_set, List.length_map, List.length_append, List.length_replicate, List.size_toArray, List.length_cons, List.length_nil, Array.size_setIfInBounds]); (first | omega | exact of_decide_eq_true (by rfl))))) | exact Cel.owns (by with_reducible (repeat first | apply In.here | apply In.there)) (getML (d := (0 : UInt64)) (by ((try simp only [List.length_set, List.length_map, List.length_append, List.length_replicate, List.size_toArray, List.length_cons, List.length_nil, Array.size_setIfInBounds]); (first | omega | exact of_decide_eq_true (by rfl))))) | exact Cel.reads (by assumption) (by with_reducible (repeat first | apply In.here | apply In.there)) (getML (d := (0 : UInt64)) (by ((try simp only [List.length_set, List.length_map, List.length_append, List.length_replicate, List.size_toArray, List.length_cons, List.length_nil, Array.size_setIfInBounds]); (first | omega | exact of_decide_eq_true (by rfl))))) | exact Cel.rds0 (by with_reducible (repeat first | apply In.here | apply In.there)) (getML (d := (0 : UInt64)) (by ((try simp only [List.length_set, List.length_map, List.length_append, List.length_replicate, List.size_toArray, List.length_cons, List.length_nil, Array.size_setIfInBounds]); (first | omega | exact of_decide_eq_true (by rfl))))) | exact Cel.owns0 (by with_reducible (repeat first | apply In.here | apply In.there)) (getML (d := (0 : UInt64)) (by ((try simp only [List.length_set, List.length_map, List.length_append, List.length_replicate, List.size_toArray, List.length_cons, List.length_nil, Array.size_setIfInBounds]); (first | omega | exact of_decide_eq_true (by rfl)))))) : Cel As p v := h
theorem celN (h : Cel As p v := by first | exact Cel.at0 Reads.owns (by with_reducible (repeat first | apply In.here | apply In.there)) (by assumption) (by rfl) | exact Cel.at Reads.owns (by with_reducible (repeat first | apply In.here | apply In.there)) (by assumption) (by rfl) | exact Cel.datAt0 (by with_reducible (repeat first | apply In.here | apply In.there)) (by assumption) (by rfl) | exact Cel.datAt (by with_reducible (repeat first | apply In.here | apply In.there)) (by assumption) (by rfl) | exact Cel.datAtS (by with_reducible (repeat first | apply In.here | apply In.there)) (by assumption) (by rfl) | exact Cel.blk (by with_reducible (repeat first | apply In.here | apply In.there)) (by first | exact getM (d := (0 : Nat)) (by ((try simp only [List.length_set, List.length_map, List.length_append, List.length_replicate, List.size_toArray, List.length_cons, List.length_nil, Array.size_setIfInBounds]); (first | omega | exact of_decide_eq_true (by rfl)))) | rfl) | exact Cel.rblk (by with_reducible (repeat first | apply In.here | apply In.there)) (by first | exact getM (d := (0 : Nat)) (by ((try simp only [List.length_set, List.length_map, List.length_append, List.length_replicate, List.size_toArray, List.length_cons, List.length_nil, Array.size_setIfInBounds]); (first | omega | exact of_decide_eq_true (by rfl)))) | rfl) | exact Cel.rds (by with_reducible (repeat first | apply In.here | apply In.there)) (getML (d := (0 : Nat)) (by ((try simp only [List.length_set, List.length_map, List.length_append, List.length_replicate, List.size_toArray, List.length_cons, List.length_nil, Array.size_setIfInBounds]); (first | omega | exact of_decide_eq_true (by rfl))))) | exact Cel.rdsB (by with_reducible (repeat first | apply In.here | apply In.there)) (getML (d := (0 : Nat)) (by ((try simp only [List.length_set, List.length_map, List.length_append, List.length_replicate, List.size_toArray, List.length_cons, List.length_nil, Array.size_setIfInBounds]); (first | omega | exact of_decide_eq_true (by rfl))))) | exact Cel.owns (by with_reducible (repeat first | apply In.here | apply In.there)) (getML (d := (0 : Nat)) (by ((try simp only [List.length_set, List.length_map, List.length_append, List.length_replicate, List.size_toArray, List.length_cons, List.length_nil, Array.size_setIfInBounds]); (first | omega | exact of_decide_eq_true (by rfl))))) | exact Cel.reads (by assumption) (by with_reducible (repeat first | apply In.here | apply In.there)) (getML (d := (0 : Nat)) (by ((try simp only [List.length_set, List.length_map, List.length_append, List.length_replicate, List.size_toArray, List.length_cons, List.length_nil, Array.size_setIfInBounds]); (first | omega | exact of_decide_eq_true (by rfl))))) | exact Cel.rds0 (by with_reducible (repeat first | apply In.here | apply In.there)) (getML (d := (0 : Nat)) (by ((try simp only [List.length_set, List.length_map, List.length_append, List.length_replicate, List.size_toArray, List.length_cons, List.length_nil, Array.size_setIfInBounds]); (first | omega | exact of_decide_eq_true (by rfl))))) | exact Cel.owns0 (by with_reducible (repeat first | apply In.here | apply In.there)) (getML (d := (0 : Nat)) (by ((try simp only [List.length_set, List.length_map, List.length_append, List.length_replicate, List.size_toArray, List.length_cons, List.length_nil, Array.size_setIfInBounds]); (first | omega | exact of_decide_eq_true (by rfl)))))) : Cel As p v := h
theorem celD (h : Cel As p v := by first | exact Cel.at0 Reads.owns (by with_reducible (repeat first | apply In.here | apply In.there)) (by assumption) (by rfl) | exact Cel.at Reads.owns (by with_reducible (repeat first | apply In.here | apply In.there)) (by assumption) (by rfl) | exact Cel.datAt0 (by with_reducible (repeat first | apply In.here | apply In.there)) (by assumption) (by rfl) | exact Cel.datAt (by with_reducible (repeat first | apply In.here | apply In.there)) (by assumption) (by rfl) | exact Cel.datAtS (by with_reducible (repeat first | apply In.here | apply In.there)) (by assumption) (by rfl) | exact Cel.blk (by with_reducible (repeat first | apply In.here | apply In.there)) (by first | exact getM (d := default) (by ((try simp only [List.length_set, List.length_map, List.length_append, List.length_replicate, List.size_toArray, List.length_cons, List.length_nil, Array.size_setIfInBounds]); (first | omega | exact of_decide_eq_true (by rfl)))) | rfl) | exact Cel.rblk (by with_reducible (repeat first | apply In.here | apply In.there)) (by first | exact getM (d := default) (by ((try simp only [List.length_set, List.length_map, List.length_append, List.length_replicate, List.size_toArray, List.length_cons, List.length_nil, Array.size_setIfInBounds]); (first | omega | exact of_decide_eq_true (by rfl)))) | rfl) | exact Cel.rds (by with_reducible (repeat first | apply In.here | apply In.there)) (getML (d := default) (by ((try simp only [List.length_set, List.length_map, List.length_append, List.length_replicate, List.size_toArray, List.length_cons, List.length_nil, Array.size_setIfInBounds]); (first | omega | exact of_decide_eq_true (by rfl))))) | exact Cel.rdsB (by with_reducible (repeat first | apply In.here | apply In.there)) (getML (d := default) (by ((try simp only [List.length_set, List.length_map, List.length_append, List.length_replicate, List.size_toArray, List.length_cons, List.length_nil, Array.size_setIfInBounds]); (first | omega | exact of_decide_eq_true (by rfl))))) | exact Cel.owns (by with_reducible (repeat first | apply In.here | apply In.there)) (getML (d := default) (by ((try simp only [List.length_set, List.length_map, List.length_append, List.length_replicate, List.size_toArray, List.length_cons, List.length_nil, Array.size_setIfInBounds]); (first | omega | exact of_decide_eq_true (by rfl))))) | exact Cel.reads (by assumption) (by with_reducible (repeat first | apply In.here | apply In.there)) (getML (d := default) (by ((try simp only [List.length_set, List.length_map, List.length_append, List.length_replicate, List.size_toArray, List.length_cons, List.length_nil, Array.size_setIfInBounds]); (first | omega | exact of_decide_eq_true (by rfl))))) | exact Cel.rds0 (by with_reducible (repeat first | apply In.here | apply In.there)) (getML (d := default) (by ((try simp only [List.length_set, List.length_map, List.length_append, List.length_replicate, List.size_toArray, List.length_cons, List.length_nil, Array.size_setIfInBounds]); (first | omega | exact of_decide_eq_true (by rfl))))) | exact Cel.owns0 (by with_reducible (repeat first | apply In.here | apply In.there)) (getML (d := default) (by ((try simp only [List.length_set, List.length_map, List.length_append, List.length_replicate, List.size_toArray, List.length_cons, List.length_nil, Array.size_setIfInBounds]); (first | omega | exact of_decide_eq_true (by rfl)))))) : Cel As p v := h
theorem ceo8 (h : Cel As p v := by first | exact Cel.blk (by with_reducible (repeat first | apply In.here | apply In.there)) (by first | exact getM (d := (0 : UInt8)) (by ((try simp only [List.length_set, List.length_map, List.length_append, List.length_replicate, List.size_toArray, List.length_cons, List.length_nil, Array.size_setIfInBounds]); (first | omega | exact of_decide_eq_true (by rfl)))) | rfl) | exact Cel.rblk (by with_reducible (repeat first | apply In.here | apply In.there)) (by first | exact getM (d := (0 : UInt8)) (by ((try simp only [List.length_set, List.length_map, List.length_append, List.length_replicate, List.size_toArray, List.length_cons, List.length_nil, Array.size_setIfInBounds]); (first | omega | exact of_decide_eq_true (by rfl)))) | rfl) | exact Cel.rds (by with_reducible (repeat first | apply In.here | apply In.there)) (getML (d := (0 : UInt8)) (by ((try simp only [List.length_set, List.length_map, List.length_append, List.length_replicate, List.size_toArray, List.length_cons, List.length_nil, Array.size_setIfInBounds]); (first | omega | exact of_decide_eq_true (by rfl))))) | exact Cel.rdsB (by with_reducible (repeat first | apply In.here | apply In.there)) (getML (d := (0 : UInt8)) (by ((try simp only [List.length_set, List.length_map, List.length_append, List.length_replicate, List.size_toArray, List.length_cons, List.length_nil, Array.size_setIfInBounds]); (first | omega | exact of_decide_eq_true (by rfl))))) | exact Cel.owns (by with_reducible (repeat first | apply In.here | apply In.there)) (getML (d := (0 : UInt8)) (by ((try simp only [List.length_set, List.length_map, List.length_append, List.length_replicate, List.size_toArray, List.length_cons, List.length_nil, Array.size_setIfInBounds]); (first | omega | exact of_decide_eq_true (by rfl))))) | exact Cel.reads (by assumption) (by with_reducible (repeat first | apply In.here | apply In.there)) (getML (d := (0 : UInt8)) (by ((try simp only [List.length_set, List.length_map, List.length_append, List.length_replicate, List.size_toArray, List.length_cons, List.length_nil, Array.size_setIfInBounds]); (first | omega | exact of_decide_eq_true (by rfl)))))) : Cel As p v := h
theorem ceo16 (h : Cel As p v := by first | exact Cel.blk (by with_reducible (repeat first | apply In.here | apply In.there)) (by first | exact getM (d := (0 : UInt16)) (by ((try simp only [List.length_set, List.length_map, List.length_append, List.length_replicate, List.size_toArray, List.length_cons, List.length_nil, Array.size_setIfInBounds]); (first | omega | exact of_decide_eq_true (by rfl)))) | rfl) | exact Cel.rblk (by with_reducible (repeat first | apply In.here | apply In.there)) (by first | exact getM (d := (0 : UInt16)) (by ((try simp only [List.length_set, List.length_map, List.length_append, List.length_replicate, List.size_toArray, List.length_cons, List.length_nil, Array.size_setIfInBounds]); (first | omega | exact of_decide_eq_true (by rfl)))) | rfl) | exact Cel.rds (by with_reducible (repeat first | apply In.here | apply In.there)) (getML (d := (0 : UInt16)) (by ((try simp only [List.length_set, List.length_map, List.length_append, List.length_replicate, List.size_toArray, List.length_cons, List.length_nil, Array.size_setIfInBounds]); (first | omega | exact of_decide_eq_true (by rfl))))) | exact Cel.rdsB (by with_reducible (repeat first | apply In.here | apply In.there)) (getML (d := (0 : UInt16)) (by ((try simp only [List.length_set, List.length_map, List.length_append, List.length_replicate, List.size_toArray, List.length_cons, List.length_nil, Array.size_setIfInBounds]); (first | omega | exact of_decide_eq_true (by rfl))))) | exact Cel.owns (by with_reducible (repeat first | apply In.here | apply In.there)) (getML (d := (0 : UInt16)) (by ((try simp only [List.length_set, List.length_map, List.length_append, List.length_replicate, List.size_toArray, List.length_cons, List.length_nil, Array.size_setIfInBounds]); (first | omega | exact of_decide_eq_true (by rfl))))) | exact Cel.reads (by assumption) (by with_reducible (repeat first | apply In.here | apply In.there)) (getML (d := (0 : UInt16)) (by ((try simp only [List.length_set, List.length_map, List.length_append, List.length_replicate, List.size_toArray, List.length_cons, List.length_nil, Array.size_setIfInBounds]); (first | omega | exact of_decide_eq_true (by rfl)))))) : Cel As p v := h
theorem ceo32 (h : Cel As p v := by first | exact Cel.blk (by with_reducible (repeat first | apply In.here | apply In.there)) (by first | exact getM (d := (0 : UInt32)) (by ((try simp only [List.length_set, List.length_map, List.length_append, List.length_replicate, List.size_toArray, List.length_cons, List.length_nil, Array.size_setIfInBounds]); (first | omega | exact of_decide_eq_true (by rfl)))) | rfl) | exact Cel.rblk (by with_reducible (repeat first | apply In.here | apply In.there)) (by first | exact getM (d := (0 : UInt32)) (by ((try simp only [List.length_set, List.length_map, List.length_append, List.length_replicate, List.size_toArray, List.length_cons, List.length_nil, Array.size_setIfInBounds]); (first | omega | exact of_decide_eq_true (by rfl)))) | rfl) | exact Cel.rds (by with_reducible (repeat first | apply In.here | apply In.there)) (getML (d := (0 : UInt32)) (by ((try simp only [List.length_set, List.length_map, List.length_append, List.length_replicate, List.size_toArray, List.length_cons, List.length_nil, Array.size_setIfInBounds]); (first | omega | exact of_decide_eq_true (by rfl))))) | exact Cel.rdsB (by with_reducible (repeat first | apply In.here | apply In.there)) (getML (d := (0 : UInt32)) (by ((try simp only [List.length_set, List.length_map, List.length_append, List.length_replicate, List.size_toArray, List.length_cons, List.length_nil, Array.size_setIfInBounds]); (first | omega | exact of_decide_eq_true (by rfl))))) | exact Cel.owns (by with_reducible (repeat first | apply In.here | apply In.there)) (getML (d := (0 : UInt32)) (by ((try simp only [List.length_set, List.length_map, List.length_append, List.length_replicate, List.size_toArray, List.length_cons, List.length_nil, Array.size_setIfInBounds]); (first | omega | exact of_decide_eq_true (by rfl))))) | exact Cel.reads (by assumption) (by with_reducible (repeat first | apply In.here | apply In.there)) (getML (d := (0 : UInt32)) (by ((try simp only [List.length_set, List.length_map, List.length_append, List.length_replicate, List.size_toArray, List.length_cons, List.length_nil, Array.size_setIfInBounds]); (first | omega | exact of_decide_eq_true (by rfl)))))) : Cel As p v := h
theorem ceo64 (h : Cel As p v := by first | exact Cel.blk (by with_reducible (repeat first | apply In.here | apply In.there)) (by first | exact getM (d := (0 : UInt64)) (by ((try simp only [List.length_set, List.length_map, List.length_append, List.length_replicate, List.size_toArray, List.length_cons, List.length_nil, Array.size_setIfInBounds]); (first | omega | exact of_decide_eq_true (by rfl)))) | rfl) | exact Cel.rblk (by with_reducible (repeat first | apply In.here | apply In.there)) (by first | exact getM (d := (0 : UInt64)) (by ((try simp only [List.length_set, List.length_map, List.length_append, List.length_replicate, List.size_toArray, List.length_cons, List.length_nil, Array.size_setIfInBounds]); (first | omega | exact of_decide_eq_true (by rfl)))) | rfl) | exact Cel.rds (by with_reducible (repeat first | apply In.here | apply In.there)) (getML (d := (0 : UInt64)) (by ((try simp only [List.length_set, List.length_map, List.length_append, List.length_replicate, List.size_toArray, List.length_cons, List.length_nil, Array.size_setIfInBounds]); (first | omega | exact of_decide_eq_true (by rfl))))) | exact Cel.rdsB (by with_reducible (repeat first | apply In.here | apply In.there)) (getML (d := (0 : UInt64)) (by ((try simp only [List.length_set, List.length_map, List.length_append, List.length_replicate, List.size_toArray, List.length_cons, List.length_nil, Array.size_setIfInBounds]); (first | omega | exact of_decide_eq_true (by rfl))))) | exact Cel.owns (by with_reducible (repeat first | apply In.here | apply In.there)) (getML (d := (0 : UInt64)) (by ((try simp only [List.length_set, List.length_map, List.length_append, List.length_replicate, List.size_toArray, List.length_cons, List.length_nil, Array.size_setIfInBounds]); (first | omega | exact of_decide_eq_true (by rfl))))) | exact Cel.reads (by assumption) (by with_reducible (repeat first | apply In.here | apply In.there)) (getML (d := (0 : UInt64)) (by ((try simp only [List.length_set, List.length_map, List.length_append, List.length_replicate, List.size_toArray, List.length_cons, List.length_nil, Array.size_setIfInBounds]); (first | omega | exact of_decide_eq_true (by rfl)))))) : Cel As p v := h
theorem ceoN (h : Cel As p v := by first | exact Cel.blk (by with_reducible (repeat first | apply In.here | apply In.there)) (by first | exact getM (d := (0 : Nat)) (by ((try simp only [List.length_set, List.length_map, List.length_append, List.length_replicate, List.size_toArray, List.length_cons, List.length_nil, Array.size_setIfInBounds]); (first | omega | exact of_decide_eq_true (by rfl)))) | rfl) | exact Cel.rblk (by with_reducible (repeat first | apply In.here | apply In.there)) (by first | exact getM (d := (0 : Nat)) (by ((try simp only [List.length_set, List.length_map, List.length_append, List.length_replicate, List.size_toArray, List.length_cons, List.length_nil, Array.size_setIfInBounds]); (first | omega | exact of_decide_eq_true (by rfl)))) | rfl) | exact Cel.rds (by with_reducible (repeat first | apply In.here | apply In.there)) (getML (d := (0 : Nat)) (by ((try simp only [List.length_set, List.length_map, List.length_append, List.length_replicate, List.size_toArray, List.length_cons, List.length_nil, Array.size_setIfInBounds]); (first | omega | exact of_decide_eq_true (by rfl))))) | exact Cel.rdsB (by with_reducible (repeat first | apply In.here | apply In.there)) (getML (d := (0 : Nat)) (by ((try simp only [List.length_set, List.length_map, List.length_append, List.length_replicate, List.size_toArray, List.length_cons, List.length_nil, Array.size_setIfInBounds]); (first | omega | exact of_decide_eq_true (by rfl))))) | exact Cel.owns (by with_reducible (repeat first | apply In.here | apply In.there)) (getML (d := (0 : Nat)) (by ((try simp only [List.length_set, List.length_map, List.length_append, List.length_replicate, List.size_toArray, List.length_cons, List.length_nil, Array.size_setIfInBounds]); (first | omega | exact of_decide_eq_true (by rfl))))) | exact Cel.reads (by assumption) (by with_reducible (repeat first | apply In.here | apply In.there)) (getML (d := (0 : Nat)) (by ((try simp only [List.length_set, List.length_map, List.length_append, List.length_replicate, List.size_toArray, List.length_cons, List.length_nil, Array.size_setIfInBounds]); (first | omega | exact of_decide_eq_true (by rfl)))))) : Cel As p v := h
theorem ceoD (h : Cel As p v := by first | exact Cel.blk (by with_reducible (repeat first | apply In.here | apply In.there)) (by first | exact getM (d := default) (by ((try simp only [List.length_set, List.length_map, List.length_append, List.length_replicate, List.size_toArray, List.length_cons, List.length_nil, Array.size_setIfInBounds]); (first | omega | exact of_decide_eq_true (by rfl)))) | rfl) | exact Cel.rblk (by with_reducible (repeat first | apply In.here | apply In.there)) (by first | exact getM (d := default) (by ((try simp only [List.length_set, List.length_map, List.length_append, List.length_replicate, List.size_toArray, List.length_cons, List.length_nil, Array.size_setIfInBounds]); (first | omega | exact of_decide_eq_true (by rfl)))) | rfl) | exact Cel.rds (by with_reducible (repeat first | apply In.here | apply In.there)) (getML (d := default) (by ((try simp only [List.length_set, List.length_map, List.length_append, List.length_replicate, List.size_toArray, List.length_cons, List.length_nil, Array.size_setIfInBounds]); (first | omega | exact of_decide_eq_true (by rfl))))) | exact Cel.rdsB (by with_reducible (repeat first | apply In.here | apply In.there)) (getML (d := default) (by ((try simp only [List.length_set, List.length_map, List.length_append, List.length_replicate, List.size_toArray, List.length_cons, List.length_nil, Array.size_setIfInBounds]); (first | omega | exact of_decide_eq_true (by rfl))))) | exact Cel.owns (by with_reducible (repeat first | apply In.here | apply In.there)) (getML (d := default) (by ((try simp only [List.length_set, List.length_map, List.length_append, List.length_replicate, List.size_toArray, List.length_cons, List.length_nil, Array.size_setIfInBounds]); (first | omega | exact of_decide_eq_true (by rfl))))) | exact Cel.reads (by assumption) (by with_reducible (repeat first | apply In.here | apply In.there)) (getML (d := default) (by ((try simp only [List.length_set, List.length_map, List.length_append, List.length_replicate, List.size_toArray, List.length_cons, List.length_nil, Array.size_setIfInBounds]); (first | omega | exact of_decide_eq_true (by rfl)))))) : Cel As p v := h
end
end Go.Proofs.Ytpmplnkempcmjaa

/- The writer: its contracts. -/
namespace Go.Proofs.Ytpmplnkempcmjaa
set_option linter.unusedVariables false
set_option linter.unusedSimpArgs false
open Go.RowKit
namespace wr
namespace FxWireW
set_option maxRecDepth 100000
theorem el96 : Elt Try.prog 96 5 1 1 (.int .u8 0) := ⟨Try.underlying96, by kernel_rfl, rfl, by decide, by simp [Value.cells, Value.oneCell']⟩
theorem sc96 : Program.isSc Try.prog 96 = true := by kernel_rfl
theorem sz96 : (Try.prog.info? 96).map (·.size) = some 1 := by kernel_rfl
end FxWireW
open FxWireW
/-- a writer's variable with bytes of its own -/
def W (b : Nat) (l : List UInt8) : SA := SA.ex fun x : Option Addr × Nat => SA.star (SA.blk b #[.slice x.1 l.length x.2] 96) (SA.owns 5 1 (.slice x.1 l.length x.2) l.length (l.map v8))
theorem mk {b n cap : Nat} {a : Option Addr} {l : List UInt8} {cs : List Value} {L : List SA} (hn : l.length = n) (hc : l.map v8 = cs) : Ent (SA.blk b #[.slice a n cap] 96 :: SA.owns 5 1 (.slice a n cap) n cs :: L) (W b l :: L) := by
  subst hn; subst hc
  exact Ent.unstarE.trans (Ent.exE (f := fun x : Option Addr × Nat => SA.star (SA.blk b #[.slice x.1 l.length x.2] 96) (SA.owns 5 1 (.slice x.1 l.length x.2) l.length (l.map v8))) (a, cap))
theorem put {b n cap : Nat} {a : Option Addr} {l : List UInt8} {cs : List Value} {cb : Array Value} {L L1 L2 L3 : List SA} (h1 : Pull (SA.blk b cb 96) L L1) (hb : cb = #[.slice a n cap]) (h2 : Pull (SA.owns 5 1 (.slice a n cap) n cs) L1 L2) (hn : l.length = n) (hc : l.map v8 = cs) (hE : Ent L2 L3) : Ent L (W b l :: L3) := by
  subst hb
  exact h1.ent.trans ((h2.ent.under _).trans ((mk hn hc).trans (hE.under _)))
theorem mk0 {b : Nat} {L : List SA} : Ent (SA.blk b #[.slice none 0 0] 96 :: L) (W b [] :: L) := (Ent.under _ (Ent.nilOwn _ _)).trans (mk rfl rfl)
--REG (*rostrum/wire.Writer).U8 : _ _ ⟨rfl, rfl⟩ => (wr.U8_fn _ {1} _ WL! _)
theorem U8_fn (b : Nat) (x : UInt8) (l : List UInt8) (hl : l.length ≤ 1099511627776) (L : List SA) : Fn Try.prog 62 [pt b 0, v8 x] (W b l :: L) (fun v L' => v = .tuple #[] ∧ L' = W b (l ++ [x]) :: L) := by
  refine Fn.of (N := 12) Try.func62 rfl rfl ?_
  intro Xh
  refine TC.open pul ?_
  rintro ⟨a, cap⟩
  refine TC.split pul ?_
  refine TC.region ?_
  refine TL.val rfl rfl rfl (Y.move rfl rfl) ?_
  refine TL.val rfl rfl rfl (Y.move rfl rfl) ?_
  refine TL.val rfl rfl rfl (Y.nilCheck rfl rfl) ?_
  refine TL.val rfl rfl rfl (Y.load rfl sc96 rfl ceoD) ?_
  refine TL.val rfl rfl rfl (Y.move rfl rfl) ?_
  refine TL.eff rfl rfl rfl (X.lit rfl el96 rfl rfl rfl (by decide) rfl) ?_
  rintro _ _ ⟨g9, rfl, rfl⟩
  refine TL.eff rfl rfl rfl (X.appendS rfl el96 rfl pul rfl (by first | exact Src.owns Try.underlying96 inn | exact Src.rds Try.underlying96 inn | exact Src.reads (by assumption) Try.underlying96 inn) (by simp only [maxLen]; omega) (by omega)) ?_
  rintro _ _ ⟨a10, c10, rfl, rfl⟩
  refine TL.val rfl rfl rfl (Y.nilCheck rfl rfl) ?_
  refine TL.eff0 rfl rfl (by first | exact X.store rfl sz96 rfl rfl rfl pul lnn (by first | exact setM | rfl) | exact X.storeOwn rfl sz96 rfl (Nat.zero_add _).symm rfl rfl pul lnn (by first | exact setML | rfl) | exact X.storeOwn rfl sz96 rfl rfl rfl rfl pul lnn (by first | exact setML | rfl)) ?_
  rintro _ _ rfl
  refine TL.nil ?_
  refine TQ.endE (res0 rfl) (⟨rfl, rfl⟩) ?_
  exact (put pul (by rfl) pul (by simp) (by simp) ett)
def be16 (x : UInt16) : List UInt8 := [(shr16 x 8).toUInt8, x.toUInt8]
def be32 (x : UInt32) : List UInt8 := [(shr32 x 24).toUInt8, (shr32 x 16).toUInt8, (shr32 x 8).toUInt8, x.toUInt8]
theorem be16_len (x : UInt16) : (be16 x).length = 2 := rfl
theorem be32_len (x : UInt32) : (be32 x).length = 4 := rfl
--REG (*rostrum/wire.Writer).U16 : _ _ ⟨rfl, rfl⟩ => (wr.U16_fn _ {1} _ WL! _)
theorem U16_fn (b : Nat) (x : UInt16) (l : List UInt8) (hl : l.length ≤ 1099511627776) (L : List SA) : Fn Try.prog 43 [pt b 0, v16 x] (W b l :: L) (fun v L' => v = .tuple #[] ∧ L' = W b (l ++ be16 x) :: L) := by
  refine Fn.of (N := 16) Try.func43 rfl rfl ?_
  intro Xh
  refine TC.open pul ?_
  rintro ⟨a, cap⟩
  refine TC.split pul ?_
  refine TC.region ?_
  refine TL.val rfl rfl rfl (Y.move rfl rfl) ?_
  refine TL.val rfl rfl rfl (Y.move rfl rfl) ?_
  refine TL.val rfl rfl rfl (Y.nilCheck rfl rfl) ?_
  refine TL.val rfl rfl rfl (Y.load rfl sc96 rfl ceoD) ?_
  refine TL.val rfl rfl rfl (Y.move rfl rfl) ?_
  refine TL.val rfl rfl rfl (Y.bin rfl rfl rfl (br_shr16 (n := 8))) ?_
  refine TL.val rfl rfl rfl (Y.conv rfl Try.underlying22 Try.underlying5 rfl (cv_16_8)) ?_
  refine TL.val rfl rfl rfl (Y.move rfl rfl) ?_
  refine TL.val rfl rfl rfl (Y.conv rfl Try.underlying22 Try.underlying5 rfl (cv_16_8)) ?_
  refine TL.eff rfl rfl rfl (X.lit rfl el96 rfl rfl rfl (by decide) rfl) ?_
  rintro _ _ ⟨g13, rfl, rfl⟩
  refine TL.eff rfl rfl rfl (X.appendS rfl el96 rfl pul rfl (by first | exact Src.owns Try.underlying96 inn | exact Src.rds Try.underlying96 inn | exact Src.reads (by assumption) Try.underlying96 inn) (by simp only [maxLen]; omega) (by omega)) ?_
  rintro _ _ ⟨a14, c14, rfl, rfl⟩
  refine TL.val rfl rfl rfl (Y.nilCheck rfl rfl) ?_
  refine TL.eff0 rfl rfl (by first | exact X.store rfl sz96 rfl rfl rfl pul lnn (by first | exact setM | rfl) | exact X.storeOwn rfl sz96 rfl (Nat.zero_add _).symm rfl rfl pul lnn (by first | exact setML | rfl) | exact X.storeOwn rfl sz96 rfl rfl rfl rfl pul lnn (by first | exact setML | rfl)) ?_
  rintro _ _ rfl
  refine TL.nil ?_
  refine TQ.endE (res0 rfl) (⟨rfl, rfl⟩) ?_
  exact (put pul (by rfl) pul (by simp [be16]) (by simp [be16]) ett)
--REG (*rostrum/wire.Writer).U32 : _ _ ⟨rfl, rfl⟩ => (wr.U32_fn _ {1} _ WL! _)
theorem U32_fn (b : Nat) (x : UInt32) (l : List UInt8) (hl : l.length ≤ 1099511627776) (L : List SA) : Fn Try.prog 44 [pt b 0, v32 x] (W b l :: L) (fun v L' => v = .tuple #[] ∧ L' = W b (l ++ be32 x) :: L) := by
  refine Fn.of (N := 22) Try.func44 rfl rfl ?_
  intro Xh
  refine TC.open pul ?_
  rintro ⟨a, cap⟩
  refine TC.split pul ?_
  refine TC.region ?_
  refine TL.val rfl rfl rfl (Y.move rfl rfl) ?_
  refine TL.val rfl rfl rfl (Y.move rfl rfl) ?_
  refine TL.val rfl rfl rfl (Y.nilCheck rfl rfl) ?_
  refine TL.val rfl rfl rfl (Y.load rfl sc96 rfl ceoD) ?_
  refine TL.val rfl rfl rfl (Y.move rfl rfl) ?_
  refine TL.val rfl rfl rfl (Y.bin rfl rfl rfl (br_shr32 (n := 24))) ?_
  refine TL.val rfl rfl rfl (Y.conv rfl Try.underlying26 Try.underlying5 rfl (cv_32_8)) ?_
  refine TL.val rfl rfl rfl (Y.move rfl rfl) ?_
  refine TL.val rfl rfl rfl (Y.bin rfl rfl rfl (br_shr32 (n := 16))) ?_
  refine TL.val rfl rfl rfl (Y.conv rfl Try.underlying26 Try.underlying5 rfl (cv_32_8)) ?_
  refine TL.val rfl rfl rfl (Y.move rfl rfl) ?_
  refine TL.val rfl rfl rfl (Y.bin rfl rfl rfl (br_shr32 (n := 8))) ?_
  refine TL.val rfl rfl rfl (Y.conv rfl Try.underlying26 Try.underlying5 rfl (cv_32_8)) ?_
  refine TL.val rfl rfl rfl (Y.move rfl rfl) ?_
  refine TL.val rfl rfl rfl (Y.conv rfl Try.underlying26 Try.underlying5 rfl (cv_32_8)) ?_
  refine TL.eff rfl rfl rfl (X.lit rfl el96 rfl rfl rfl (by decide) rfl) ?_
  rintro _ _ ⟨g19, rfl, rfl⟩
  refine TL.eff rfl rfl rfl (X.appendS rfl el96 rfl pul rfl (by first | exact Src.owns Try.underlying96 inn | exact Src.rds Try.underlying96 inn | exact Src.reads (by assumption) Try.underlying96 inn) (by simp only [maxLen]; omega) (by omega)) ?_
  rintro _ _ ⟨a20, c20, rfl, rfl⟩
  refine TL.val rfl rfl rfl (Y.nilCheck rfl rfl) ?_
  refine TL.eff0 rfl rfl (by first | exact X.store rfl sz96 rfl rfl rfl pul lnn (by first | exact setM | rfl) | exact X.storeOwn rfl sz96 rfl (Nat.zero_add _).symm rfl rfl pul lnn (by first | exact setML | rfl) | exact X.storeOwn rfl sz96 rfl rfl rfl rfl pul lnn (by first | exact setML | rfl)) ?_
  rintro _ _ rfl
  refine TL.nil ?_
  refine TQ.endE (res0 rfl) (⟨rfl, rfl⟩) ?_
  exact (put pul (by rfl) pul (by simp [be32]) (by simp [be32]) ett)
--REG (*rostrum/wire.Writer).Bytes : _ _ ⟨rfl, rfl⟩ => (wr.BytesR_fn _ _ _ _ _ _ (by first | assumption | rfl | omega) WL! _)
theorem Bytes_fn (A : SA) (b n : Nat) (s : Option Addr) (cap : Nat) (l m : List UInt8) (hA : Reads A 1 (.slice s n cap) n (m.map v8)) (hn : m.length = n) (hl : l.length + n ≤ 1099511627776) (L : List SA) :
    Fn Try.prog 45 [pt b 0, .slice s n cap] (W b l :: A :: L) (fun v L' => v = .tuple #[] ∧ L' = W b (l ++ m) :: A :: L) := by
  subst hn
  refine Fn.of (N := 11) Try.func45 rfl rfl ?_
  intro Xh
  refine TC.open pul ?_
  rintro ⟨a, c⟩
  refine TC.split pul ?_
  refine TC.region ?_
  refine TL.val rfl rfl rfl (Y.move rfl rfl) ?_
  refine TL.val rfl rfl rfl (Y.move rfl rfl) ?_
  refine TL.val rfl rfl rfl (Y.nilCheck rfl rfl) ?_
  refine TL.val rfl rfl rfl (Y.load rfl sc96 rfl ceoD) ?_
  refine TL.val rfl rfl rfl (Y.move rfl rfl) ?_
  refine TL.eff rfl rfl rfl (X.appendS rfl el96 rfl pul rfl (Src.reads hA Try.underlying30 inn) (by simp only [maxLen]; omega) (by omega)) ?_
  rintro _ _ ⟨a9, c9, rfl, rfl⟩
  refine TL.val rfl rfl rfl (Y.nilCheck rfl rfl) ?_
  refine TL.eff0 rfl rfl (by first | exact X.store rfl sz96 rfl rfl rfl pul lnn (by first | exact setM | rfl) | exact X.storeOwn rfl sz96 rfl (Nat.zero_add _).symm rfl rfl pul lnn (by first | exact setML | rfl) | exact X.storeOwn rfl sz96 rfl rfl rfl rfl pul lnn (by first | exact setML | rfl)) ?_
  rintro _ _ rfl
  refine TL.nil ?_
  refine TQ.endE (res0 rfl) (⟨rfl, rfl⟩) ?_
  exact (put pul (by rfl) pul (by simp) (by simp) ett)
theorem BytesR_fn (b n : Nat) (s : Option Addr) (cap : Nat) (l m : List UInt8) (hn : m.length = n) (hl : l.length + n ≤ 1099511627776) (L : List SA) :
    Fn Try.prog 45 [pt b 0, .slice s n cap] (W b l :: SA.rds 1 (.slice s n cap) n (m.map v8) :: L) (fun v L' => v = .tuple #[] ∧ L' = W b (l ++ m) :: SA.rds 1 (.slice s n cap) n (m.map v8) :: L) := Bytes_fn _ b n s cap l m Reads.rds hn hl L
def pad4 (l : List UInt8) : List UInt8 := l ++ List.replicate ((4 - l.length % 4) % 4) 0
theorem pad4_length (l : List UInt8) : (pad4 l).length = l.length + (4 - l.length % 4) % 4 := by simp [pad4]
theorem pad4_mod (l : List UInt8) : (pad4 l).length % 4 = 0 := by rw [pad4_length]; omega
theorem pad4_head (h l : List UInt8) (hh : h.length % 4 = 0) : pad4 (h ++ l) = h ++ pad4 l := by
  have : (4 - (h ++ l).length % 4) % 4 = (4 - l.length % 4) % 4 := by simp; omega
  simp only [pad4, this, List.append_assoc]
theorem pad4_step (l : List UInt8) (h : l.length % 4 ≠ 0) : pad4 (l ++ [0]) = pad4 l := by
  have e : (4 - l.length % 4) % 4 = (4 - (l ++ [0]).length % 4) % 4 + 1 := by simp; omega
  simp only [pad4, e, List.replicate_succ]
  simp
theorem pad4_done (l : List UInt8) (h : l.length % 4 = 0) : pad4 l = l := by simp [pad4, h]
--REG (*rostrum/wire.Writer).Even : _ _ ⟨rfl, rfl⟩ => (wr.Even_fn _ _ WL! _)
theorem Even_fn (b : Nat) (l : List UInt8) (hl : l.length ≤ 1099511627770) (L : List SA) : Fn Try.prog 46 [pt b 0] (W b l :: L) (fun v L' => v = .tuple #[] ∧ L' = W b (pad4 l) :: L) := by
  refine Fn.of (N := 10) Try.func46 rfl rfl ?_
  intro Xh
  refine TC.block ?_
  refine TC.loopF (ι := List UInt8) [] (fun m => pad4 m = pad4 l) (fun m => []) (fun m => [W b m]) (fun m => (pad4 l).length - m.length) (l) (rfl) trivial (Pulls.cons pul Pulls.nil) ?_
  rintro m hm F' L' rfl hL'
  simp only [List.cons_append, List.nil_append] at hL'
  subst hL'
  have hpl := pad4_length m
  have hpl2 := pad4_length l
  rw [hm] at hpl
  refine TC.seq ?_
  refine TC.seq ?_
  refine TC.open pul ?_
  rintro ⟨a, cap⟩
  refine TC.split pul ?_
  refine TC.region ?_
  refine TL.val rfl rfl rfl (Y.move rfl rfl) ?_
  refine TL.val rfl rfl rfl (Y.nilCheck rfl rfl) ?_
  refine TL.val rfl rfl rfl (Y.load rfl sc96 rfl ceoD) ?_
  refine TL.val rfl rfl rfl (Y.len rfl Try.underlying96 rfl) ?_
  refine TL.val rfl rfl rfl (Y.bin rfl rfl rfl (br_remN (n := 4) (by omega))) ?_
  refine TL.val rfl rfl rfl (Y.bin rfl rfl rfl (br_neN (n := 0))) ?_
  refine TL.nil ?_
  refine TQ.next ?_
  refine TC.cond rfl (fun c0 => ?_) (fun c0 => ?_)
  · try simp only [decide_eq_true_eq, decide_eq_false_iff_not, Bool.not_eq_true', Bool.not_eq_false', Bool.and_eq_true, Bool.or_eq_true, Nat.not_lt, Nat.not_le, beq_iff_eq, bne_iff_ne] at c0
    refine TC.to (put pul (by rfl) pul (by rfl) (by rfl) Ent.refl (l := m)) ?_
    refine TC.skip ?_
    refine TQ.next ?_
    refine TC.block ?_
    refine TC.region ?_
    refine TL.val rfl rfl rfl (Y.move rfl rfl) ?_
    refine TL.eff rfl rfl rfl (X.call rfl Try.func62 (by kernel_rfl) rfl rfl (Fn.preE (by repeat first | (with_reducible apply Ent.refl) | (apply Ent.cons; case h => first | (with_reducible (repeat first | apply Pull.here | apply Pull.there); done) | (repeat first | apply Pull.here | apply Pull.there))) (wr.U8_fn _ 0 _ (by first | omega | (simp only [List.length_append, List.length_nil, List.length_cons, wr.be16_len, wr.be32_len]; omega) | (simp only [List.length_append, List.length_nil, List.length_cons, wr.be16_len, wr.be32_len, r1.be2_len, r1.be4_len]; omega) | (simp; omega)) _))) ?_
    rintro _ _ ⟨rfl, rfl⟩
    refine TL.nil ?_
    refine TQ.block_normal ?_
    refine TQ.loopF (m ++ [0]) ((pad4_step m c0).trans hm) (by simp only [List.length_append, List.length_cons, List.length_nil]; omega) trivial (by (repeat first | apply Grow.refl | apply Grow.step | apply Grow.app)) ?_ ?_ ?_
    · kernel_rfl
    · rfl
    · simp only [List.cons_append, List.nil_append]
      exact ett
  · try simp only [decide_eq_true_eq, decide_eq_false_iff_not, Bool.not_eq_true', Bool.not_eq_false', Bool.and_eq_true, Bool.or_eq_true, Nat.not_lt, Nat.not_le, beq_iff_eq, bne_iff_ne] at c0
    refine TC.to (put pul (by rfl) pul (by rfl) (by rfl) Ent.refl (l := m)) ?_
    refine TC.exit ?_
    refine TQ.then_exit ?_
    refine TQ.then_exit ?_
    refine TQ.block_exit ?_
    refine TQ.endE (res0 rfl) (⟨rfl, by rw [← hm, pad4_done m (by omega)]⟩) ?_
    exact ett
end wr
end Go.Proofs.Ytpmplnkempcmjaa

/- The reader: its contracts; bytes.Clone. -/
namespace Go.Proofs.Ytpmplnkempcmjaa
set_option linter.unusedVariables false
set_option linter.unusedSimpArgs false
open Go.RowKit
namespace rd
namespace FxWireR
set_option maxRecDepth 100000
theorem el30 : Elt Try.prog 30 5 1 1 (.int .u8 0) := ⟨Try.underlying30, by kernel_rfl, rfl, by decide, by simp [Value.cells, Value.oneCell']⟩
theorem fo108_0 : Program.fieldOff Try.prog 108 0 = some 0 := by kernel_rfl
theorem fo108_1 : Program.fieldOff Try.prog 108 1 = some 1 := by kernel_rfl
theorem pl108 : Program.places Try.prog 108 = some [(0, 1), (1, 1)] := by kernel_rfl
theorem sc30 : Program.isSc Try.prog 30 = true := by kernel_rfl
theorem sc4 : Program.isSc Try.prog 4 = true := by kernel_rfl
theorem sc5 : Program.isSc Try.prog 5 = true := by kernel_rfl
theorem sl30 : Program.slI Try.prog 30 = some 1 := by kernel_rfl
theorem sz30 : (Try.prog.info? 30).map (·.size) = some 1 := by kernel_rfl
theorem sz4 : (Try.prog.info? 4).map (·.size) = some 1 := by kernel_rfl
theorem sz5 : (Try.prog.info? 5).map (·.size) = some 1 := by kernel_rfl
theorem zc108 : Program.zeroC Try.prog 108 = some #[.slice none 0 0, .bool false] := by kernel_rfl
end FxWireR
open FxWireR
--REG bytes.Clone : _ _ ⟨a{d}, c{d}, rfl, rfl⟩ => (rd.Clone_fn _ _ _ _ (by first | assumption | rfl) (by omega) _)
theorem Clone_gen (A : SA) (a : Option Addr) (n cap : Nat) (l : List UInt8) (hA : Reads A 1 (.slice a n cap) n (l.map v8)) (hn : l.length = n) (hl : n ≤ 140737488351232) (L : List SA) :
    Fn Try.prog 51 [.slice a n cap] (A :: L) (fun v L' => ∃ a' c', v = .slice a' n c' ∧ L' = SA.owns 5 1 (.slice a' n c') n (l.map v8) :: A :: L) := by
  subst hn
  refine Fn.of (N := 8) Try.func51 rfl rfl ?_
  intro Xh
  refine TC.know (reads_cap hA inn) ?_
  rintro ⟨-, -, -, hnone⟩
  refine TC.seq ?_
  refine TC.region ?_
  refine TL.val rfl rfl rfl (Y.assign rfl rfl) ?_
  refine TL.nil ?_
  refine TQ.next ?_
  refine TC.seq ?_
  refine TC.seq ?_
  refine TC.region ?_
  refine TL.val rfl rfl rfl (Y.move rfl rfl) ?_
  refine TL.val rfl rfl rfl (Y.eqNilS rfl Try.underlying30 rfl rfl) ?_
  refine TL.nil ?_
  refine TQ.next ?_
  refine TC.cond rfl (fun c0 => ?_) (fun c0 => ?_)
  · try simp only [decide_eq_true_eq, decide_eq_false_iff_not, Bool.not_eq_true', Bool.not_eq_false', Bool.and_eq_true, Bool.or_eq_true, Nat.not_lt, Nat.not_le, beq_iff_eq, bne_iff_ne] at c0
    have ha : a = none := by cases a <;> simp_all
    have h0 := hnone ha
    obtain rfl : l = [] := List.eq_nil_of_length_eq_zero h0
    refine TC.to (Ent.nilOwn 5 1) ?_
    refine TC.seq ?_
    refine TC.region ?_
    refine TL.val rfl rfl rfl (Y.assign rfl rfl) ?_
    refine TL.nil ?_
    refine TQ.next ?_
    refine TC.ret ?_
    refine TQ.then_ret ?_
    refine TQ.retE (res1 rfl rfl) (⟨_, _, rfl, rfl⟩) ?_
    exact ett
  · try simp only [decide_eq_true_eq, decide_eq_false_iff_not, Bool.not_eq_true', Bool.not_eq_false', Bool.and_eq_true, Bool.or_eq_true, Nat.not_lt, Nat.not_le, beq_iff_eq, bne_iff_ne] at c0
    refine TC.skip ?_
    refine TQ.next ?_
    refine TC.seq ?_
    refine TC.region ?_
    refine TL.eff rfl rfl rfl (X.lit rfl el30 rfl rfl rfl (by decide) rfl) ?_
    rintro _ _ ⟨g5, rfl, rfl⟩
    refine TL.val rfl rfl rfl (Y.move rfl rfl) ?_
    refine TL.eff rfl rfl rfl (X.appendS rfl el30 rfl pul rfl (Src.reads hA Try.underlying30 inn) (by simp only [maxLen]; omega) (by omega)) ?_
    rintro _ _ ⟨a7, c7, rfl, rfl⟩
    simp only [Nat.zero_add, List.nil_append]
    refine TL.val rfl rfl rfl (Y.assign rfl rfl) ?_
    refine TL.nil ?_
    refine TQ.next ?_
    refine TC.ret ?_
    refine TQ.retE (res1 rfl rfl) (⟨_, _, rfl, rfl⟩) ?_
    exact ett
theorem Clone_fn (a : Option Addr) (n cap : Nat) (l : List UInt8) (hn : l.length = n) (hl : n ≤ 140737488351232) (L : List SA) :
    Fn Try.prog 51 [.slice a n cap] (SA.rds 1 (.slice a n cap) n (l.map v8) :: L) (fun v L' => ∃ a' c', v = .slice a' n c' ∧ L' = SA.owns 5 1 (.slice a' n c') n (l.map v8) :: SA.rds 1 (.slice a n cap) n (l.map v8) :: L) := Clone_gen _ a n cap l Reads.rds hn hl L
def rdB (k : Nat) (l : List UInt8) (bad : Bool) : Bool := bad || decide (l.length < k)
def rdL (k : Nat) (l : List UInt8) (bad : Bool) : List UInt8 := if rdB k l bad then l else l.drop k
def rdV (k : Nat) (l : List UInt8) (bad : Bool) : List UInt8 := if rdB k l bad then [] else l.take k
theorem rdV_len (k : Nat) (l : List UInt8) (bad : Bool) : (rdV k l bad).length ≤ l.length := by unfold rdV; split <;> simp <;> omega
theorem rdL_len (k : Nat) (l : List UInt8) (bad : Bool) : (rdL k l bad).length ≤ l.length := by unfold rdL; split <;> simp
/-- a reader with what is left -/
def R (b : Nat) (l : List UInt8) (bad : Bool) : SA := SA.ex fun x : Option Addr × Nat => SA.star (SA.blk b #[.slice x.1 l.length x.2, .bool bad] 108) (SA.rds 1 (.slice x.1 l.length x.2) l.length (l.map v8))
theorem put {b n cap : Nat} {bad : Bool} {a : Option Addr} {l : List UInt8} {cs : List Value} {cb : Array Value} {L L1 L2 L3 : List SA} (h1 : Pull (SA.blk b cb 108) L L1) (hb : cb = #[.slice a n cap, .bool bad]) (h2 : Pull (SA.rds 1 (.slice a n cap) n cs) L1 L2) (hn : l.length = n) (hc : l.map v8 = cs) (hE : Ent L2 L3) : Ent L (R b l bad :: L3) := by
  subst hb; subst hn; subst hc
  exact h1.ent.trans ((h2.ent.under _).trans ((Ent.unstarE.trans (Ent.exE (f := fun x : Option Addr × Nat => SA.star (SA.blk b #[.slice x.1 l.length x.2, .bool bad] 108) (SA.rds 1 (.slice x.1 l.length x.2) l.length (l.map v8))) (a, cap))).trans (hE.under _)))
--REG rostrum/wire.NewReader : _ _ ⟨p{d}, rfl, rfl⟩ => (rd.New_fn _ _ _ _ (by first | assumption | rfl) (by omega) _)
theorem New_gen (A : SA) (a : Option Addr) (n cap : Nat) (l : List UInt8) (hA : Reads A 1 (.slice a n cap) n (l.map v8)) (hn : l.length = n) (hl : n ≤ 140737488351232) (L : List SA) :
    Fn Try.prog 31 [.slice a n cap] (A :: L) (fun v L' => ∃ p, v = pt p 0 ∧ L' = R p l false :: A :: L) := by
  subst hn
  refine Fn.of (N := 7) Try.func31 rfl rfl ?_
  intro Xh
  refine TC.seq ?_
  refine TC.region ?_
  refine TL.val rfl rfl rfl (Y.assign rfl rfl) ?_
  refine TL.nil ?_
  refine TQ.next ?_
  refine TC.seq ?_
  refine TC.region ?_
  refine TL.val rfl rfl rfl (Y.move rfl rfl) ?_
  refine TL.eff rfl rfl rfl (X.call rfl Try.func51 (by kernel_rfl) rfl rfl (Fn.preE (by repeat first | (with_reducible apply Ent.refl) | (apply Ent.cons; case h => first | (with_reducible (repeat first | apply Pull.here | apply Pull.there); done) | (repeat first | apply Pull.here | apply Pull.there))) (Clone_gen A _ _ _ l hA rfl hl _))) ?_
  rintro _ _ ⟨a4, c4, rfl, rfl⟩
  refine TL.val rfl rfl rfl (Y.buildS rfl rfl pl108 zc108 rfl) ?_
  refine TL.eff rfl rfl rfl (X.boxA rfl rfl) ?_
  rintro _ _ ⟨b6, rfl, rfl⟩
  refine TL.val rfl rfl rfl (Y.assign rfl rfl) ?_
  refine TL.nil ?_
  refine TQ.next ?_
  refine TC.ret ?_
  refine TQ.retE (res1 rfl rfl) (⟨_, rfl, rfl⟩) ?_
  exact ((Pull.ent (A := SA.owns 5 1 (.slice a4 l.length c4) l.length (l.map v8)) pul).trans (Ent.freeze.trans (put pul (by rfl) pul rfl rfl ett)))
theorem New_fn (a : Option Addr) (n cap : Nat) (l : List UInt8) (hn : l.length = n) (hl : n ≤ 140737488351232) (L : List SA) :
    Fn Try.prog 31 [.slice a n cap] (SA.rds 1 (.slice a n cap) n (l.map v8) :: L) (fun v L' => ∃ p, v = pt p 0 ∧ L' = R p l false :: SA.rds 1 (.slice a n cap) n (l.map v8) :: L) := New_gen _ a n cap l Reads.rds hn hl L
--REG (*rostrum/wire.Reader).Left : _ _ ⟨rfl, rfl⟩ => (rd.Left_fn _ _ _ _)
theorem Left_fn (b : Nat) (l : List UInt8) (bad : Bool) (L : List SA) : Fn Try.prog 36 [pt b 0] (R b l bad :: L) (fun v L' => v = vN l.length ∧ L' = R b l bad :: L) := by
  refine Fn.of (N := 10) Try.func36 rfl rfl ?_
  intro Xh
  refine TC.open pul ?_
  rintro ⟨a, cap⟩
  refine TC.split pul ?_
  refine TC.seq ?_
  refine TC.region ?_
  refine TL.val rfl rfl rfl (Y.assign rfl rfl) ?_
  refine TL.nil ?_
  refine TQ.next ?_
  refine TC.seq ?_
  refine TC.seq ?_
  refine TC.region ?_
  refine TL.val rfl rfl rfl (Y.move rfl rfl) ?_
  refine TL.val rfl rfl rfl (by first | exact Y.eqNilP rfl Try.underlying85 rfl rfl | exact Y.eqNil0 rfl Try.underlying85 rfl rfl) ?_
  refine TL.nil ?_
  refine TQ.next ?_
  refine TC.cond_f rfl ?_
  refine TC.skip ?_
  refine TQ.next ?_
  refine TC.seq ?_
  refine TC.region ?_
  refine TL.val rfl rfl rfl (Y.move rfl rfl) ?_
  refine TL.val rfl rfl rfl (Y.nilCheck rfl rfl) ?_
  refine TL.val rfl rfl rfl (Y.fieldAddr rfl fo108_0 rfl nqq) ?_
  refine TL.val rfl rfl rfl (Y.load rfl sc30 rfl ceoD) ?_
  refine TL.val rfl rfl rfl (Y.len rfl Try.underlying30 rfl) ?_
  refine TL.val rfl rfl rfl (Y.assign rfl rfl) ?_
  refine TL.nil ?_
  refine TQ.next ?_
  refine TC.ret ?_
  refine TQ.retE (res1 rfl rfl) (⟨rfl, rfl⟩) ?_
  exact (put pul (by rfl) pul rfl rfl ett)
--REG (*rostrum/wire.Reader).Bad : _ _ ⟨rfl, rfl⟩ => (rd.Bad_fn _ _ _ _)
theorem Bad_fn (b : Nat) (l : List UInt8) (bad : Bool) (L : List SA) : Fn Try.prog 35 [pt b 0] (R b l bad :: L) (fun v L' => v = .bool bad ∧ L' = R b l bad :: L) := by
  refine Fn.of (N := 11) Try.func35 rfl rfl ?_
  intro Xh
  refine TC.open pul ?_
  rintro ⟨a, cap⟩
  refine TC.split pul ?_
  refine TC.seq ?_
  refine TC.region ?_
  refine TL.val rfl rfl rfl (Y.assign rfl rfl) ?_
  refine TL.nil ?_
  refine TQ.next ?_
  refine TC.seq ?_
  refine TC.region ?_
  refine TL.val rfl rfl rfl (Y.move rfl rfl) ?_
  refine TL.val rfl rfl rfl (by first | exact Y.eqNilP rfl Try.underlying85 rfl rfl | exact Y.eqNil0 rfl Try.underlying85 rfl rfl) ?_
  refine TL.val rfl rfl rfl (Y.move rfl rfl) ?_
  refine TL.valG rfl rfl rfl (Y.move rfl rfl) ?_
  refine TL.valG rfl rfl rfl (Y.nilCheck rfl rfl) ?_
  refine TL.valG rfl rfl rfl (Y.fieldAddr rfl fo108_1 rfl nqq) ?_
  refine TL.valG rfl rfl rfl (Y.load rfl sc4 rfl ceoD) ?_
  refine TL.val rfl rfl rfl (Y.pick_f rfl rfl rfl) ?_
  refine TL.val rfl rfl rfl (Y.assign rfl rfl) ?_
  refine TL.nil ?_
  refine TQ.next ?_
  refine TC.ret ?_
  refine TQ.retE (res1 rfl rfl) (⟨rfl, rfl⟩) ?_
  exact (put pul (by rfl) pul rfl rfl ett)
theorem cut_t (b k : Nat) (l : List UInt8) (hk : k < 9223372036854775808) (L : List SA) : Fn Try.prog 58 [pt b 0, vN k] (R b l true :: L) (fun v L' => v = .slice none 0 0 ∧ L' = R b l true :: L) := by
  refine Fn.of (N := 42) Try.func58 rfl rfl ?_
  intro Xh
  refine TC.seq ?_
  refine TC.region ?_
  refine TL.val rfl rfl rfl (Y.assign rfl rfl) ?_
  refine TL.nil ?_
  refine TQ.next ?_
  refine TC.seq ?_
  refine TC.seq ?_
  refine TC.region ?_
  refine TL.val rfl rfl rfl (Y.move rfl rfl) ?_
  refine TL.eff rfl rfl rfl (X.call rfl Try.func35 (by kernel_rfl) rfl rfl (Fn.preE (by repeat first | (with_reducible apply Ent.refl) | (apply Ent.cons; case h => first | (with_reducible (repeat first | apply Pull.here | apply Pull.there); done) | (repeat first | apply Pull.here | apply Pull.there))) (rd.Bad_fn _ _ _ _))) ?_
  rintro _ _ ⟨rfl, rfl⟩
  refine TL.val rfl rfl rfl (Y.move rfl rfl) ?_
  refine TL.not rfl rfl rfl ?_
  refine TL.not rfl rfl rfl ?_
  refine TL.val rfl rfl rfl (Y.pick_t rfl rfl rfl) ?_
  refine TL.val rfl rfl rfl (Y.move rfl rfl) ?_
  refine TL.not rfl rfl rfl ?_
  refine TL.not rfl rfl rfl ?_
  refine TL.not rfl rfl rfl ?_
  refine TL.not rfl rfl rfl ?_
  refine TL.not rfl rfl rfl ?_
  refine TL.not rfl rfl rfl ?_
  refine TL.not rfl rfl rfl ?_
  refine TL.val rfl rfl rfl (Y.pick_t rfl rfl rfl) ?_
  refine TL.nil ?_
  refine TQ.next ?_
  refine TC.cond_t rfl ?_
  refine TC.seq ?_
  refine TC.seq ?_
  refine TC.region ?_
  refine TL.val rfl rfl rfl (Y.move rfl rfl) ?_
  refine TL.val rfl rfl rfl (by first | exact Y.neNilP rfl Try.underlying85 rfl rfl | exact Y.neNil0 rfl Try.underlying85 rfl rfl) ?_
  refine TL.is true (by first | rfl | (simp only [decide_eq_true_eq, decide_eq_false_iff_not, Bool.not_eq_true', Bool.not_eq_false', Bool.not_eq_eq_eq_not, Bool.not_true, Bool.not_false, Nat.not_lt, Nat.not_le]; omega) | (simp [*]; done) | (simp; omega)) ?_
  refine TL.nil ?_
  refine TQ.next ?_
  refine TC.cond_t rfl ?_
  refine TC.open pul ?_
  rintro ⟨a, cap⟩
  refine TC.split pul ?_
  refine TC.region ?_
  refine TL.val rfl rfl rfl (Y.move rfl rfl) ?_
  refine TL.val rfl rfl rfl (Y.nilCheck rfl rfl) ?_
  refine TL.val rfl rfl rfl (Y.fieldAddr rfl fo108_1 rfl nqq) ?_
  refine TL.eff0 rfl rfl (by first | exact X.store rfl sz4 rfl rfl rfl pul lnn (by first | exact setM | rfl) | exact X.storeOwn rfl sz4 rfl (Nat.zero_add _).symm rfl rfl pul lnn (by first | exact setML | rfl) | exact X.storeOwn rfl sz4 rfl rfl rfl rfl pul lnn (by first | exact setML | rfl)) ?_
  rintro _ _ rfl
  refine TL.nil ?_
  refine TQ.next ?_
  refine TC.seq ?_
  refine TC.region ?_
  refine TL.val rfl rfl rfl (Y.assign rfl rfl) ?_
  refine TL.nil ?_
  refine TQ.next ?_
  refine TC.ret ?_
  refine TQ.then_ret ?_
  refine TQ.retE (res1 rfl rfl) (⟨rfl, rfl⟩) ?_
  exact (put pul (by rfl) pul rfl rfl ett)
theorem cut_s (b k : Nat) (l : List UInt8) (hk : k < 9223372036854775808) (hl : l.length < k) (L : List SA) : Fn Try.prog 58 [pt b 0, vN k] (R b l false :: L) (fun v L' => v = .slice none 0 0 ∧ L' = R b l true :: L) := by
  refine Fn.of (N := 42) Try.func58 rfl rfl ?_
  intro Xh
  refine TC.seq ?_
  refine TC.region ?_
  refine TL.val rfl rfl rfl (Y.assign rfl rfl) ?_
  refine TL.nil ?_
  refine TQ.next ?_
  refine TC.seq ?_
  refine TC.seq ?_
  refine TC.region ?_
  refine TL.val rfl rfl rfl (Y.move rfl rfl) ?_
  refine TL.eff rfl rfl rfl (X.call rfl Try.func35 (by kernel_rfl) rfl rfl (Fn.preE (by repeat first | (with_reducible apply Ent.refl) | (apply Ent.cons; case h => first | (with_reducible (repeat first | apply Pull.here | apply Pull.there); done) | (repeat first | apply Pull.here | apply Pull.there))) (rd.Bad_fn _ _ _ _))) ?_
  rintro _ _ ⟨rfl, rfl⟩
  refine TL.val rfl rfl rfl (Y.move rfl rfl) ?_
  refine TL.valG rfl rfl rfl (Y.move rfl rfl) ?_
  refine TL.valG rfl rfl rfl (Y.bin rfl rfl rfl (br_ltN (n := 0))) ?_
  refine TL.is false (by first | rfl | (simp only [decide_eq_true_eq, decide_eq_false_iff_not, Bool.not_eq_true', Bool.not_eq_false', Bool.not_eq_eq_eq_not, Bool.not_true, Bool.not_false, Nat.not_lt, Nat.not_le]; omega) | (simp [*]; done) | (simp; omega)) ?_
  refine TL.val rfl rfl rfl (Y.pick_f rfl rfl rfl) ?_
  refine TL.val rfl rfl rfl (Y.move rfl rfl) ?_
  refine TL.valG rfl rfl rfl (Y.move rfl rfl) ?_
  refine TL.open pul ?_
  rintro ⟨a, cap⟩
  refine TL.split pul ?_
  refine TL.valG rfl rfl rfl (Y.move rfl rfl) ?_
  refine TL.valG rfl rfl rfl (Y.nilCheck rfl rfl) ?_
  refine TL.valG rfl rfl rfl (Y.fieldAddr rfl fo108_0 rfl nqq) ?_
  refine TL.valG rfl rfl rfl (Y.load rfl sc30 rfl ceoD) ?_
  refine TL.valG rfl rfl rfl (Y.len rfl Try.underlying30 rfl) ?_
  refine TL.valG rfl rfl rfl (Y.bin rfl rfl rfl (br_gtN)) ?_
  refine TL.is true (by first | rfl | (simp only [decide_eq_true_eq, decide_eq_false_iff_not, Bool.not_eq_true', Bool.not_eq_false', Bool.not_eq_eq_eq_not, Bool.not_true, Bool.not_false, Nat.not_lt, Nat.not_le]; omega) | (simp [*]; done) | (simp; omega)) ?_
  refine TL.val rfl rfl rfl (Y.pick_f rfl rfl rfl) ?_
  refine TL.nil ?_
  refine TQ.next ?_
  refine TC.cond_t rfl ?_
  refine TC.seq ?_
  refine TC.seq ?_
  refine TC.region ?_
  refine TL.val rfl rfl rfl (Y.move rfl rfl) ?_
  refine TL.val rfl rfl rfl (by first | exact Y.neNilP rfl Try.underlying85 rfl rfl | exact Y.neNil0 rfl Try.underlying85 rfl rfl) ?_
  refine TL.is true (by first | rfl | (simp only [decide_eq_true_eq, decide_eq_false_iff_not, Bool.not_eq_true', Bool.not_eq_false', Bool.not_eq_eq_eq_not, Bool.not_true, Bool.not_false, Nat.not_lt, Nat.not_le]; omega) | (simp [*]; done) | (simp; omega)) ?_
  refine TL.nil ?_
  refine TQ.next ?_
  refine TC.cond_t rfl ?_
  refine TC.region ?_
  refine TL.val rfl rfl rfl (Y.move rfl rfl) ?_
  refine TL.val rfl rfl rfl (Y.nilCheck rfl rfl) ?_
  refine TL.val rfl rfl rfl (Y.fieldAddr rfl fo108_1 rfl nqq) ?_
  refine TL.eff0 rfl rfl (by first | exact X.store rfl sz4 rfl rfl rfl pul lnn (by first | exact setM | rfl) | exact X.storeOwn rfl sz4 rfl (Nat.zero_add _).symm rfl rfl pul lnn (by first | exact setML | rfl) | exact X.storeOwn rfl sz4 rfl rfl rfl rfl pul lnn (by first | exact setML | rfl)) ?_
  rintro _ _ rfl
  refine TL.nil ?_
  refine TQ.next ?_
  refine TC.seq ?_
  refine TC.region ?_
  refine TL.val rfl rfl rfl (Y.assign rfl rfl) ?_
  refine TL.nil ?_
  refine TQ.next ?_
  refine TC.ret ?_
  refine TQ.then_ret ?_
  refine TQ.retE (res1 rfl rfl) (⟨rfl, rfl⟩) ?_
  exact (put pul (by rfl) pul rfl rfl ett)
theorem cut_o (b k : Nat) (l : List UInt8) (hk : k < 9223372036854775808) (hl : k ≤ l.length) (L : List SA) : Fn Try.prog 58 [pt b 0, vN k] (R b l false :: L)
    (fun v L' => ∃ a c, v = .slice a k c ∧ L' = SA.rds 1 (.slice a k c) k ((l.take k).map v8) :: R b (l.drop k) false :: L) := by
  refine Fn.of (N := 42) Try.func58 rfl rfl ?_
  intro Xh
  refine TC.seq ?_
  refine TC.region ?_
  refine TL.val rfl rfl rfl (Y.assign rfl rfl) ?_
  refine TL.nil ?_
  refine TQ.next ?_
  refine TC.seq ?_
  refine TC.seq ?_
  refine TC.region ?_
  refine TL.val rfl rfl rfl (Y.move rfl rfl) ?_
  refine TL.eff rfl rfl rfl (X.call rfl Try.func35 (by kernel_rfl) rfl rfl (Fn.preE (by repeat first | (with_reducible apply Ent.refl) | (apply Ent.cons; case h => first | (with_reducible (repeat first | apply Pull.here | apply Pull.there); done) | (repeat first | apply Pull.here | apply Pull.there))) (rd.Bad_fn _ _ _ _))) ?_
  rintro _ _ ⟨rfl, rfl⟩
  refine TL.val rfl rfl rfl (Y.move rfl rfl) ?_
  refine TL.valG rfl rfl rfl (Y.move rfl rfl) ?_
  refine TL.valG rfl rfl rfl (Y.bin rfl rfl rfl (br_ltN (n := 0))) ?_
  refine TL.is false (by first | rfl | (simp only [decide_eq_true_eq, decide_eq_false_iff_not, Bool.not_eq_true', Bool.not_eq_false', Bool.not_eq_eq_eq_not, Bool.not_true, Bool.not_false, Nat.not_lt, Nat.not_le]; omega) | (simp [*]; done) | (simp; omega)) ?_
  refine TL.val rfl rfl rfl (Y.pick_f rfl rfl rfl) ?_
  refine TL.val rfl rfl rfl (Y.move rfl rfl) ?_
  refine TL.valG rfl rfl rfl (Y.move rfl rfl) ?_
  refine TL.open pul ?_
  rintro ⟨a, cap⟩
  refine TL.split pul ?_
  refine TL.valG rfl rfl rfl (Y.move rfl rfl) ?_
  refine TL.valG rfl rfl rfl (Y.nilCheck rfl rfl) ?_
  refine TL.valG rfl rfl rfl (Y.fieldAddr rfl fo108_0 rfl nqq) ?_
  refine TL.valG rfl rfl rfl (Y.load rfl sc30 rfl ceoD) ?_
  refine TL.valG rfl rfl rfl (Y.len rfl Try.underlying30 rfl) ?_
  refine TL.valG rfl rfl rfl (Y.bin rfl rfl rfl (br_gtN)) ?_
  refine TL.is false (by first | rfl | (simp only [decide_eq_true_eq, decide_eq_false_iff_not, Bool.not_eq_true', Bool.not_eq_false', Bool.not_eq_eq_eq_not, Bool.not_true, Bool.not_false, Nat.not_lt, Nat.not_le]; omega) | (simp [*]; done) | (simp; omega)) ?_
  refine TL.val rfl rfl rfl (Y.pick_f rfl rfl rfl) ?_
  refine TL.nil ?_
  refine TQ.next ?_
  refine TC.cond_f rfl ?_
  refine TC.skip ?_
  refine TQ.next ?_
  refine TC.seq ?_
  refine TC.know (reads_cap Reads.rds (a := a) (n := l.length) (cap := cap) (cs := l.map v8) inn) ?_
  rintro ⟨hc1, hc2, -, -⟩
  refine TC.region ?_
  refine TL.val rfl rfl rfl (Y.move rfl rfl) ?_
  refine TL.val rfl rfl rfl (Y.nilCheck rfl rfl) ?_
  refine TL.val rfl rfl rfl (Y.fieldAddr rfl fo108_0 rfl nqq) ?_
  refine TL.val rfl rfl rfl (Y.load rfl sc30 rfl ceoD) ?_
  refine TL.val rfl rfl rfl (Y.move rfl rfl) ?_
  refine TL.val rfl rfl rfl (Y.sliceHi2 rfl Try.underlying30 sz5 rfl rfl (by omega)) ?_
  refine TL.val rfl rfl rfl (Y.assign rfl rfl) ?_
  refine TL.nil ?_
  refine TQ.next ?_
  refine TC.seq ?_
  refine TC.region ?_
  refine TL.val rfl rfl rfl (Y.move rfl rfl) ?_
  refine TL.val rfl rfl rfl (Y.move rfl rfl) ?_
  refine TL.val rfl rfl rfl (Y.nilCheck rfl rfl) ?_
  refine TL.val rfl rfl rfl (Y.fieldAddr rfl fo108_0 rfl nqq) ?_
  refine TL.val rfl rfl rfl (Y.load rfl sc30 rfl ceoD) ?_
  refine TL.val rfl rfl rfl (Y.move rfl rfl) ?_
  refine TL.val rfl rfl rfl (Y.sliceLo rfl Try.underlying30 sz5 rfl rfl (by omega)) ?_
  refine TL.val rfl rfl rfl (Y.nilCheck rfl rfl) ?_
  refine TL.val rfl rfl rfl (Y.fieldAddr rfl fo108_0 rfl nqq) ?_
  refine TL.eff0 rfl rfl (by first | exact X.store rfl sz30 rfl rfl rfl pul lnn (by first | exact setM | rfl) | exact X.storeOwn rfl sz30 rfl (Nat.zero_add _).symm rfl rfl pul lnn (by first | exact setML | rfl) | exact X.storeOwn rfl sz30 rfl rfl rfl rfl pul lnn (by first | exact setML | rfl)) ?_
  rintro _ _ rfl
  refine TL.nil ?_
  refine TQ.next ?_
  refine TC.seq ?_
  refine TC.region ?_
  refine TL.val rfl rfl rfl (Y.move rfl rfl) ?_
  refine TL.val rfl rfl rfl (Y.assign rfl rfl) ?_
  refine TL.nil ?_
  refine TQ.next ?_
  refine TC.ret ?_
  refine TQ.retE (res1 rfl rfl) (⟨_, _, rfl, rfl⟩) ?_
  exact ((Pull.ent (A := SA.rds 1 (.slice a l.length cap) l.length (l.map v8)) pul).trans ((Ent.cutRds hl).trans (Ent.under _ (put pul (by rfl) (l := l.drop k) (by first | exact Pull.here | exact Pull.there .here) (by simp) rfl ett))))
--REG (*rostrum/wire.Reader).cut : _ _ ⟨a{d}, c{d}, rfl, rfl⟩ => (rd.cut_fn _ {1} _ _ (by omega) _)
theorem cut_fn (b k : Nat) (l : List UInt8) (bad : Bool) (hk : k < 9223372036854775808) (L : List SA) : Fn Try.prog 58 [pt b 0, vN k] (R b l bad :: L)
    (fun v L' => ∃ a c, v = .slice a (rdV k l bad).length c ∧ L' = SA.rds 1 (.slice a (rdV k l bad).length c) (rdV k l bad).length ((rdV k l bad).map v8) :: R b (rdL k l bad) (rdB k l bad) :: L) := by
  have nilR : ∀ M : List SA, Ent M (SA.rds 1 (.slice none 0 0) 0 (([] : List UInt8).map v8) :: M) := fun M => (Ent.nilOwn 0 1).trans Ent.freeze
  by_cases hB : rdB k l bad = true
  · have e1 : rdV k l bad = [] := by simp [rdV, hB]
    have e2 : rdL k l bad = l := by simp [rdL, hB]
    rw [e1, e2, hB]
    cases bad with
    | true => exact (cut_t b k l hk L).mono fun v L' ⟨h1, h2⟩ => ⟨_, nilR _, none, 0, h1, by rw [h2]; rfl⟩
    | false => exact (cut_s b k l hk (by simpa [rdB] using hB) L).mono fun v L' ⟨h1, h2⟩ => ⟨_, nilR _, none, 0, h1, by rw [h2]; rfl⟩
  · have hB' : bad = false ∧ k ≤ l.length := by simpa [rdB] using hB
    obtain ⟨rfl, hl⟩ := hB'
    have e0 : rdB k l false = false := by simpa using hB
    have e1 : rdV k l false = l.take k := by simp [rdV, e0]
    have e2 : rdL k l false = l.drop k := by simp [rdL, e0]
    rw [e1, e2, e0, List.length_take, Nat.min_eq_left hl]
    exact cut_o b k l hk hl L
def num1 (x : UInt32) (c : UInt8) : UInt32 := shl32 x 8 ||| c.toUInt32
def num (l : List UInt8) : UInt32 := l.foldl num1 0
def numK (l : List UInt8) (k : Nat) : UInt32 := num (l.take k)
theorem numK_s (l : List UInt8) (k : Nat) (h : k < l.length) : numK l (k + 1) = num1 (numK l k) (l.getD k 0) := by
  unfold numK num
  rw [List.take_add_one, List.foldl_append, List.getD_eq_getElem?_getD, List.getElem?_eq_getElem h]
  rfl
theorem numK_all (l : List UInt8) : numK l l.length = num l := by rw [numK, List.take_length]
--REG (*rostrum/wire.Reader).number : _ _ ⟨rfl, rfl⟩ => (rd.number_fn _ {1} _ _ (by omega) _)
theorem number_fn (b k : Nat) (l : List UInt8) (bad : Bool) (hk : k ≤ 8) (L : List SA) : Fn Try.prog 57 [pt b 0, vN k] (R b l bad :: L)
    (fun v L' => v = v32 (num (rdV k l bad)) ∧ L' = R b (rdL k l bad) (rdB k l bad) :: L) := by
  have hV : (rdV k l bad).length ≤ 8 := by unfold rdV; split <;> simp <;> omega
  refine Fn.of (N := 23) Try.func57 rfl rfl ?_
  intro Xh
  refine TC.seq ?_
  refine TC.region ?_
  refine TL.val rfl rfl rfl (Y.assign rfl rfl) ?_
  refine TL.nil ?_
  refine TQ.next ?_
  refine TC.seq ?_
  refine TC.region ?_
  refine TL.val rfl rfl rfl (Y.assign rfl rfl) ?_
  refine TL.nil ?_
  refine TQ.next ?_
  refine TC.seq ?_
  refine TC.seq ?_
  refine TC.region ?_
  refine TL.val rfl rfl rfl (Y.move rfl rfl) ?_
  refine TL.val rfl rfl rfl (Y.move rfl rfl) ?_
  refine TL.eff rfl rfl rfl (X.call rfl Try.func58 (by kernel_rfl) rfl rfl (Fn.preE (by repeat first | (with_reducible apply Ent.refl) | (apply Ent.cons; case h => first | (with_reducible (repeat first | apply Pull.here | apply Pull.there); done) | (repeat first | apply Pull.here | apply Pull.there))) (rd.cut_fn _ _ _ _ (by omega) _))) ?_
  rintro _ _ ⟨a10, c10, rfl, rfl⟩
  generalize rdV k l bad = V at hV ⊢
  refine TL.val rfl rfl rfl (Y.len rfl Try.underlying30 rfl) ?_
  refine TL.val rfl rfl rfl (Y.move rfl rfl) ?_
  refine TL.nil ?_
  refine TQ.next ?_
  refine TC.block ?_
  refine TC.loopF (ι := Nat) [] (fun j => j ≤ V.length) (fun j => [(12, some (vN j)), (5, some (v32 (numK V j)))]) (fun j => []) (fun j => V.length - j) (0) (by omega) ⟨rfl, rfl, trivial⟩ Pulls.nil ?_
  rintro j hj F' L' rfl hL'
  simp only [List.cons_append, List.nil_append] at hL'
  subst hL'
  refine TC.seq ?_
  refine TC.region ?_
  refine TL.val rfl rfl rfl (Y.bin rfl rfl rfl (br_ltN)) ?_
  refine TL.nil ?_
  refine TQ.next ?_
  refine TC.seq ?_
  refine TC.cond rfl (fun c0 => ?_) (fun c0 => ?_)
  · try simp only [decide_eq_true_eq, decide_eq_false_iff_not, Bool.not_eq_true', Bool.not_eq_false', Bool.and_eq_true, Bool.or_eq_true, Nat.not_lt, Nat.not_le, beq_iff_eq, bne_iff_ne] at c0
    refine TC.skip ?_
    refine TQ.next ?_
    refine TC.seq ?_
    refine TC.block ?_
    refine TC.seq ?_
    refine TC.know (reads_some (Reads.rds (v := .slice a10 V.length c10)) inn (by omega) (by omega)) ?_
    rintro ⟨g, off, rfl⟩
    refine TC.region ?_
    refine TL.val rfl rfl rfl (by first | exact Y.indexSlB rfl sl30 rfl rfl (by omega) nqq | exact Y.indexSl rfl sl30 rfl rfl (by omega) nqq) ?_
    refine TL.val rfl rfl rfl (Y.load rfl sc5 rfl ceo8) ?_
    refine TL.val rfl rfl rfl (Y.assign rfl rfl) ?_
    refine TL.nil ?_
    refine TQ.next ?_
    refine TC.region ?_
    refine TL.val rfl rfl rfl (Y.move rfl rfl) ?_
    refine TL.val rfl rfl rfl (Y.bin rfl rfl rfl (br_shl32 (n := 8))) ?_
    refine TL.val rfl rfl rfl (Y.move rfl rfl) ?_
    refine TL.val rfl rfl rfl (Y.conv rfl Try.underlying5 Try.underlying26 rfl (cv_8_32)) ?_
    refine TL.val rfl rfl rfl (Y.bin rfl rfl rfl (br_or32)) ?_
    refine TL.val rfl rfl rfl (Y.assign rfl rfl) ?_
    refine TL.nil ?_
    refine TQ.block_normal ?_
    refine TQ.next ?_
    refine TC.region ?_
    refine TL.val rfl rfl rfl (Y.bin rfl rfl rfl (br_addN (n := 1) (by omega))) ?_
    refine TL.val rfl rfl rfl (Y.move rfl rfl) ?_
    refine TL.nil ?_
    rw [show shl32 (numK V j) 8 ||| (V.getD j 0).toUInt32 = numK V (j + 1) from (numK_s V j (by omega)).symm]
    refine TQ.loopF (j + 1) (by omega) (by omega) ⟨rfl, rfl, trivial⟩ (by (repeat first | apply Grow.refl | apply Grow.step | apply Grow.app)) ?_ ?_ ?_
    · kernel_rfl
    · rfl
    · simp only [List.cons_append, List.nil_append]
      exact ett
  · try simp only [decide_eq_true_eq, decide_eq_false_iff_not, Bool.not_eq_true', Bool.not_eq_false', Bool.and_eq_true, Bool.or_eq_true, Nat.not_lt, Nat.not_le, beq_iff_eq, bne_iff_ne] at c0
    refine TC.exit ?_
    refine TQ.then_exit ?_
    refine TQ.then_exit ?_
    refine TQ.block_exit ?_
    refine TQ.next ?_
    refine TC.seq ?_
    refine TC.region ?_
    refine TL.val rfl rfl rfl (Y.move rfl rfl) ?_
    refine TL.val rfl rfl rfl (Y.assign rfl rfl) ?_
    refine TL.nil ?_
    refine TQ.next ?_
    refine TC.ret ?_
    refine TQ.retE (res1 rfl rfl) (⟨by rw [show j = V.length by omega, numK_all], rfl⟩) ?_
    exact ett
--REG (*rostrum/wire.Reader).U8 : _ _ ⟨rfl, rfl⟩ => (rd.U8_fn _ _ _ _)
--REG (*rostrum/wire.Reader).U16 : _ _ ⟨rfl, rfl⟩ => (rd.U16_fn _ _ _ _)
theorem U16_fn (b : Nat) (l : List UInt8) (bad : Bool) (L : List SA) : Fn Try.prog 32 [pt b 0] (R b l bad :: L) (fun v L' => v = v16 (num (rdV 2 l bad)).toUInt16 ∧ L' = R b (rdL 2 l bad) (rdB 2 l bad) :: L) := by
  refine Fn.of (N := 6) Try.func32 rfl rfl ?_
  intro Xh
  refine TC.seq ?_
  refine TC.region ?_
  refine TL.val rfl rfl rfl (Y.assign rfl rfl) ?_
  refine TL.nil ?_
  refine TQ.next ?_
  refine TC.seq ?_
  refine TC.region ?_
  refine TL.val rfl rfl rfl (Y.move rfl rfl) ?_
  refine TL.eff rfl rfl rfl (X.call rfl Try.func57 (by kernel_rfl) rfl rfl (Fn.preE (by repeat first | (with_reducible apply Ent.refl) | (apply Ent.cons; case h => first | (with_reducible (repeat first | apply Pull.here | apply Pull.there); done) | (repeat first | apply Pull.here | apply Pull.there))) (rd.number_fn _ 2 _ _ (by omega) _))) ?_
  rintro _ _ ⟨rfl, rfl⟩
  refine TL.val rfl rfl rfl (Y.conv rfl Try.underlying26 Try.underlying22 rfl (cv_32_16)) ?_
  refine TL.val rfl rfl rfl (Y.assign rfl rfl) ?_
  refine TL.nil ?_
  refine TQ.next ?_
  refine TC.ret ?_
  refine TQ.retE (res1 rfl rfl) (⟨rfl, rfl⟩) ?_
  exact ett
--REG (*rostrum/wire.Reader).U32 : _ _ ⟨rfl, rfl⟩ => (rd.U32_fn _ _ _ _)
theorem U32_fn (b : Nat) (l : List UInt8) (bad : Bool) (L : List SA) : Fn Try.prog 33 [pt b 0] (R b l bad :: L) (fun v L' => v = v32 (num (rdV 4 l bad)) ∧ L' = R b (rdL 4 l bad) (rdB 4 l bad) :: L) := by
  refine Fn.of (N := 5) Try.func33 rfl rfl ?_
  intro Xh
  refine TC.seq ?_
  refine TC.region ?_
  refine TL.val rfl rfl rfl (Y.assign rfl rfl) ?_
  refine TL.nil ?_
  refine TQ.next ?_
  refine TC.seq ?_
  refine TC.region ?_
  refine TL.val rfl rfl rfl (Y.move rfl rfl) ?_
  refine TL.eff rfl rfl rfl (X.call rfl Try.func57 (by kernel_rfl) rfl rfl (Fn.preE (by repeat first | (with_reducible apply Ent.refl) | (apply Ent.cons; case h => first | (with_reducible (repeat first | apply Pull.here | apply Pull.there); done) | (repeat first | apply Pull.here | apply Pull.there))) (rd.number_fn _ 4 _ _ (by omega) _))) ?_
  rintro _ _ ⟨rfl, rfl⟩
  refine TL.val rfl rfl rfl (Y.assign rfl rfl) ?_
  refine TL.nil ?_
  refine TQ.next ?_
  refine TC.ret ?_
  refine TQ.retE (res1 rfl rfl) (⟨rfl, rfl⟩) ?_
  exact ett
--REG (*rostrum/wire.Reader).Take : _ _ ⟨a{d}, c{d}, rfl, rfl⟩ => (rd.Take_fn _ {1} _ _ (by omega) (by omega) _)
theorem Take_fn (b k : Nat) (l : List UInt8) (bad : Bool) (hk : k < 9223372036854775808) (hl : l.length ≤ 140737488351232) (L : List SA) : Fn Try.prog 34 [pt b 0, vN k] (R b l bad :: L)
    (fun v L' => ∃ a c, v = .slice a (rdV k l bad).length c ∧ L' = SA.owns 5 1 (.slice a (rdV k l bad).length c) (rdV k l bad).length ((rdV k l bad).map v8) :: R b (rdL k l bad) (rdB k l bad) :: L) := by
  have hV := rdV_len k l bad
  refine Fn.of (N := 9) Try.func34 rfl rfl ?_
  intro Xh
  refine TC.seq ?_
  refine TC.region ?_
  refine TL.val rfl rfl rfl (Y.assign rfl rfl) ?_
  refine TL.nil ?_
  refine TQ.next ?_
  refine TC.seq ?_
  refine TC.region ?_
  refine TL.val rfl rfl rfl (Y.move rfl rfl) ?_
  refine TL.val rfl rfl rfl (Y.move rfl rfl) ?_
  refine TL.eff rfl rfl rfl (X.call rfl Try.func58 (by kernel_rfl) rfl rfl (Fn.preE (by repeat first | (with_reducible apply Ent.refl) | (apply Ent.cons; case h => first | (with_reducible (repeat first | apply Pull.here | apply Pull.there); done) | (repeat first | apply Pull.here | apply Pull.there))) (rd.cut_fn _ _ _ _ (by omega) _))) ?_
  rintro _ _ ⟨a7, c7, rfl, rfl⟩
  refine TL.eff rfl rfl rfl (X.call rfl Try.func51 (by kernel_rfl) rfl rfl (Fn.preE (by repeat first | (with_reducible apply Ent.refl) | (apply Ent.cons; case h => first | (with_reducible (repeat first | apply Pull.here | apply Pull.there); done) | (repeat first | apply Pull.here | apply Pull.there))) (rd.Clone_fn _ _ _ _ (by first | assumption | rfl) (by omega) _))) ?_
  rintro _ _ ⟨a8, c8, rfl, rfl⟩
  refine TL.val rfl rfl rfl (Y.assign rfl rfl) ?_
  refine TL.nil ?_
  refine TQ.next ?_
  refine TC.ret ?_
  refine TQ.retE (res1 rfl rfl) (⟨_, _, rfl, rfl⟩) ?_
  exact ett
end rd
end Go.Proofs.Ytpmplnkempcmjaa

/- The document's bytes: Two, Four, Join, Number. -/
namespace Go.Proofs.Ytpmplnkempcmjaa
set_option linter.unusedVariables false
set_option linter.unusedSimpArgs false
open Go.RowKit
namespace r1
namespace FxRef01
set_option maxRecDepth 100000
theorem el30 : Elt Try.prog 30 5 1 1 (.int .u8 0) := ⟨Try.underlying30, by kernel_rfl, rfl, by decide, by simp [Value.cells, Value.oneCell']⟩
theorem sc30 : Program.isSc Try.prog 30 = true := by kernel_rfl
theorem sl119 : Program.slI Try.prog 119 = some 1 := by kernel_rfl
end FxRef01
open FxRef01
def be2 (n : Nat) : List UInt8 := [UInt8.ofNat (n / 256), UInt8.ofNat n]
def be4 (x : UInt32) : List UInt8 := [(shr32 x 24).toUInt8, (shr32 x 16).toUInt8, (shr32 x 8).toUInt8, x.toUInt8]
theorem be2_len (n : Nat) : (be2 n).length = 2 := rfl
theorem be4_len (x : UInt32) : (be4 x).length = 4 := rfl
--REG rostrum/rostrumref01.Two : _ _ ⟨g{d}, rfl, rfl⟩ => (r1.Two_fn {0} (by omega) _)
theorem Two_fn (n : Nat) (hn : n < 4294967296) (L : List SA) : Fn Try.prog 56 [vN n] L (fun v L' => ∃ g, v = .slice (some ⟨g, 0, none⟩) 2 2 ∧ L' = SA.owns 5 1 (.slice (some ⟨g, 0, none⟩) 2 2) 2 ((be2 n).map v8) :: L) := by
  refine Fn.of (N := 9) Try.func56 rfl rfl ?_
  intro Xh
  refine TC.seq ?_
  refine TC.region ?_
  refine TL.val rfl rfl rfl (Y.assign rfl rfl) ?_
  refine TL.nil ?_
  refine TQ.next ?_
  refine TC.seq ?_
  refine TC.region ?_
  refine TL.val rfl rfl rfl (Y.move rfl rfl) ?_
  refine TL.val rfl rfl rfl (Y.bin rfl rfl rfl (br_shrN (n := 8) (c := 256) rfl (by omega))) ?_
  refine TL.val rfl rfl rfl (Y.conv rfl Try.underlying3 Try.underlying5 rfl (cv_N_8)) ?_
  refine TL.val rfl rfl rfl (Y.move rfl rfl) ?_
  refine TL.val rfl rfl rfl (Y.conv rfl Try.underlying3 Try.underlying5 rfl (cv_N_8)) ?_
  refine TL.eff rfl rfl rfl (X.lit rfl el30 rfl rfl rfl (by decide) rfl) ?_
  rintro _ _ ⟨g8, rfl, rfl⟩
  refine TL.val rfl rfl rfl (Y.assign rfl rfl) ?_
  refine TL.nil ?_
  refine TQ.next ?_
  refine TC.ret ?_
  refine TQ.retE (res1 rfl rfl) (⟨g8, rfl, rfl⟩) ?_
  exact ett
--REG rostrum/rostrumref01.Four : _ _ ⟨g{d}, rfl, rfl⟩ => (r1.Four_fn {0} _)
theorem Four_fn (x : UInt32) (L : List SA) : Fn Try.prog 54 [v32 x] L (fun v L' => ∃ g, v = .slice (some ⟨g, 0, none⟩) 4 4 ∧ L' = SA.owns 5 1 (.slice (some ⟨g, 0, none⟩) 4 4) 4 ((be4 x).map v8) :: L) := by
  refine Fn.of (N := 15) Try.func54 rfl rfl ?_
  intro Xh
  refine TC.seq ?_
  refine TC.region ?_
  refine TL.val rfl rfl rfl (Y.assign rfl rfl) ?_
  refine TL.nil ?_
  refine TQ.next ?_
  refine TC.seq ?_
  refine TC.region ?_
  refine TL.val rfl rfl rfl (Y.move rfl rfl) ?_
  refine TL.val rfl rfl rfl (Y.bin rfl rfl rfl (br_shr32 (n := 24))) ?_
  refine TL.val rfl rfl rfl (Y.conv rfl Try.underlying26 Try.underlying5 rfl (cv_32_8)) ?_
  refine TL.val rfl rfl rfl (Y.move rfl rfl) ?_
  refine TL.val rfl rfl rfl (Y.bin rfl rfl rfl (br_shr32 (n := 16))) ?_
  refine TL.val rfl rfl rfl (Y.conv rfl Try.underlying26 Try.underlying5 rfl (cv_32_8)) ?_
  refine TL.val rfl rfl rfl (Y.move rfl rfl) ?_
  refine TL.val rfl rfl rfl (Y.bin rfl rfl rfl (br_shr32 (n := 8))) ?_
  refine TL.val rfl rfl rfl (Y.conv rfl Try.underlying26 Try.underlying5 rfl (cv_32_8)) ?_
  refine TL.val rfl rfl rfl (Y.move rfl rfl) ?_
  refine TL.val rfl rfl rfl (Y.conv rfl Try.underlying26 Try.underlying5 rfl (cv_32_8)) ?_
  refine TL.eff rfl rfl rfl (X.lit rfl el30 rfl rfl rfl (by decide) rfl) ?_
  rintro _ _ ⟨g14, rfl, rfl⟩
  refine TL.val rfl rfl rfl (Y.assign rfl rfl) ?_
  refine TL.nil ?_
  refine TQ.next ?_
  refine TC.ret ?_
  refine TQ.retE (res1 rfl rfl) (⟨g14, rfl, rfl⟩) ?_
  exact ett
def flat (ps : List Bs) : List UInt8 := ps.flatMap (·.l)
theorem flat_s (ps : List Bs) (k : Nat) (x : Bs) (h : ps[k]? = some x) : flat (ps.take (k + 1)) = flat (ps.take k) ++ x.l := by
  rw [List.take_add_one, h]; simp [flat]
theorem flat_le (ps : List Bs) (k : Nat) : (flat (ps.take k)).length ≤ (flat ps).length := by
  have : flat ps = flat (ps.take k) ++ flat (ps.drop k) := by rw [flat, flat, flat, ← List.flatMap_append, List.take_append_drop]
  rw [this, List.length_append]; omega
--REG rostrum/rostrumref01.Join : _ _ ⟨a{d}, c{d}, rfl, rfl⟩ => (r1.Join_fn _ _ _ (by omega) _)
theorem Join_fn (a : Option Addr) (cap : Nat) (ps : List Bs) (hl : (flat ps).length ≤ 140737488351232) (L : List SA) :
    Fn Try.prog 55 [.slice a ps.length cap] (SA.dat (⟨a, cap, ps⟩ : Sl Bs) :: L) (fun v L' => ∃ a' c', v = .slice a' (flat ps).length c' ∧ L' = SA.owns 5 1 (.slice a' (flat ps).length c') (flat ps).length ((flat ps).map v8) :: SA.dat (⟨a, cap, ps⟩ : Sl Bs) :: L) := by
  refine Fn.of (N := 18) Try.func55 rfl rfl ?_
  intro Xh
  refine TC.seq ?_
  refine TC.region ?_
  refine TL.val rfl rfl rfl (Y.assign rfl rfl) ?_
  refine TL.nil ?_
  refine TQ.next ?_
  refine TC.seq ?_
  refine TC.region ?_
  refine TL.val rfl rfl rfl (Y.assign rfl rfl) ?_
  refine TL.nil ?_
  refine TQ.next ?_
  refine TC.seq ?_
  refine TC.seq ?_
  refine TC.region ?_
  refine TL.val rfl rfl rfl (Y.move rfl rfl) ?_
  refine TL.val rfl rfl rfl (Y.len rfl Try.underlying119 rfl) ?_
  refine TL.val rfl rfl rfl (Y.move rfl rfl) ?_
  refine TL.nil ?_
  refine TQ.next ?_
  refine TC.block ?_
  refine TC.know (dat_cap (a := a) inn) ?_
  rintro ⟨hc1, hc2, -⟩
  refine TC.to (Ent.nilOwn 5 1) ?_
  refine TC.loopF (ι := Nat × Option Addr × Nat) [] (fun i => i.1 ≤ ps.length) (fun i => [(7, some (vN i.1)), (3, some (.slice i.2.1 (flat (ps.take i.1)).length i.2.2))]) (fun i => [SA.owns 5 1 (.slice i.2.1 (flat (ps.take i.1)).length i.2.2) (flat (ps.take i.1)).length ((flat (ps.take i.1)).map v8)]) (fun i => ps.length - i.1) ((0, none, 0)) (by omega) ⟨rfl, rfl, trivial⟩ (Pulls.cons pul Pulls.nil) ?_
  rintro ⟨k, b, c⟩ hk F' L' rfl hL'
  simp only [List.cons_append, List.nil_append] at hL'
  subst hL'
  simp only at hk ⊢
  refine TC.seq ?_
  refine TC.region ?_
  refine TL.val rfl rfl rfl (Y.bin rfl rfl rfl (br_ltN)) ?_
  refine TL.nil ?_
  refine TQ.next ?_
  refine TC.seq ?_
  refine TC.cond rfl (fun c0 => ?_) (fun c0 => ?_)
  · try simp only [decide_eq_true_eq, decide_eq_false_iff_not, Bool.not_eq_true', Bool.not_eq_false', Bool.and_eq_true, Bool.or_eq_true, Nat.not_lt, Nat.not_le, beq_iff_eq, bne_iff_ne] at c0
    refine TC.skip ?_
    refine TQ.next ?_
    refine TC.seq ?_
    refine TC.block ?_
    refine TC.seq ?_
    obtain ⟨x, hx, hxm⟩ := getS (l := ps) (i := k) (by omega)
    refine TC.know (dat_some (a := a) inn (by omega)) ?_
    rintro ⟨g, off, rfl⟩
    have hfs := flat_s ps k x hx
    have hfl := flat_le ps (k + 1)
    have hfe : (flat (ps.take (k + 1))).length = (flat (ps.take k)).length + x.l.length := by rw [hfs, List.length_append]
    refine TC.region ?_
    refine TL.val rfl rfl rfl (Y.move rfl rfl) ?_
    refine TL.val rfl rfl rfl (Y.assign rfl rfl) ?_
    refine TL.nil ?_
    refine TQ.next ?_
    refine TC.region ?_
    refine TL.val rfl rfl rfl (Y.move rfl rfl) ?_
    refine TL.val rfl rfl rfl (Y.move rfl rfl) ?_
    refine TL.val rfl rfl rfl (Y.move rfl rfl) ?_
    refine TL.val rfl rfl rfl (by first | exact Y.indexSlB rfl sl119 rfl rfl (by omega) nqq | exact Y.indexSl rfl sl119 rfl rfl (by omega) nqq) ?_
    refine TL.val rfl rfl rfl (Y.load rfl sc30 rfl celD) ?_
    refine TL.eff rfl rfl rfl (X.appendS rfl el30 rfl pul rfl (Src.reads (u := x.v) (n := x.l.length) (cs := x.l.map v8) (A := SA.dat (⟨some ⟨g, off, none⟩, cap, ps⟩ : Sl Bs)) (fun w O R h => (Reads.dat (s := x)) w O R (fun q hq => h q (List.mem_cons_of_mem _ (List.mem_flatMap.2 ⟨x, hxm, hq⟩)))) Try.underlying30 inn) (by simp only [maxLen]; omega) (by omega)) ?_
    rintro _ _ ⟨a15, c15, rfl, rfl⟩
    refine TL.val rfl rfl rfl (Y.assign rfl rfl) ?_
    refine TL.nil ?_
    refine TQ.block_normal ?_
    refine TQ.next ?_
    refine TC.region ?_
    refine TL.val rfl rfl rfl (Y.bin rfl rfl rfl (br_addN (n := 1) (by omega))) ?_
    refine TL.val rfl rfl rfl (Y.move rfl rfl) ?_
    refine TL.nil ?_
    rw [← hfe]
    refine TQ.loopF ((k + 1, a15, c15)) (by simp only; omega) (by simp only; omega) ⟨rfl, rfl, trivial⟩ (by (repeat first | apply Grow.refl | apply Grow.step | apply Grow.app)) ?_ ?_ ?_
    · kernel_rfl
    · rfl
    · simp only [List.cons_append, List.nil_append]
      exact (by rw [hfs, List.map_append]; exact ett)
  · try simp only [decide_eq_true_eq, decide_eq_false_iff_not, Bool.not_eq_true', Bool.not_eq_false', Bool.and_eq_true, Bool.or_eq_true, Nat.not_lt, Nat.not_le, beq_iff_eq, bne_iff_ne] at c0
    refine TC.exit ?_
    refine TQ.then_exit ?_
    refine TQ.then_exit ?_
    refine TQ.block_exit ?_
    refine TQ.next ?_
    refine TC.seq ?_
    obtain rfl : k = ps.length := by omega
    rw [List.take_length]
    refine TC.region ?_
    refine TL.val rfl rfl rfl (Y.move rfl rfl) ?_
    refine TL.val rfl rfl rfl (Y.assign rfl rfl) ?_
    refine TL.nil ?_
    refine TQ.next ?_
    refine TC.ret ?_
    refine TQ.retE (res1 rfl rfl) (⟨b, c, rfl, rfl⟩) ?_
    exact ett
end r1
end Go.Proofs.Ytpmplnkempcmjaa

/- STUN messages as plain data: their bytes, in two ways, and that the two are one; their cells. -/
namespace Go.Proofs.Ytpmplnkempcmjaa
set_option linter.unusedVariables false
set_option linter.unusedSimpArgs false
open Go.RowKit
namespace stun
open wr (pad4 pad4_length pad4_mod pad4_head pad4_step pad4_done be16 be32)
open r1 (be2 be4 be2_len be4_len)
abbrev At := UInt16 × Bs
/-- what an attribute says -/
abbrev PA := UInt16 × List UInt8
def pl (x : At) : PA := (x.1, x.2.l)
def idL (f : Nat → UInt8) : List UInt8 := [f 0, f 1, f 2, f 3, f 4, f 5, f 6, f 7, f 8, f 9, f 10, f 11]
@[simp] theorem idL_length (f : Nat → UInt8) : (idL f).length = 12 := rfl
def msgC (c m : Int) (f : Nat → UInt8) (s : Value) : Array Value := #[vI c, vI m, v8 (f 0), v8 (f 1), v8 (f 2), v8 (f 3), v8 (f 4), v8 (f 5), v8 (f 6), v8 (f 7), v8 (f 8), v8 (f 9), v8 (f 10), v8 (f 11), s]
structure SMsg where
  cls : Int
  mth : Int
  id : List UInt8
  attrs : List PA

theorem be16_two (x : UInt16) : be16 x = be2 x.toNat := by
  have h := x.toNat_lt
  unfold be16 be2
  congr 1
  apply UInt8.toNat_inj.1
  simp [shr16]
theorem be16_ofNat (n : Nat) (h : n < 65536) : be16 (UInt16.ofNat n) = be2 n := by
  rw [be16_two, UInt16.toNat_ofNat_of_lt' (by simpa using h)]
def attrB (a : PA) : List UInt8 := be2 a.1.toNat ++ be2 a.2.length ++ a.2
def bodyFrom (b : List UInt8) (xs : List PA) : List UInt8 := xs.foldl (fun b a => pad4 (b ++ attrB a)) b
def magicB : List UInt8 := be4 554869826
def kindOf (c n : Nat) : Nat := n % 16 + c % 2 * 16 + n / 16 % 8 * 32 + c / 2 * 256 + n / 128 * 512
theorem kindOf_lt (c n : Nat) (h1 : c ≤ 3) (h3 : n ≤ 4095) : kindOf c n < 65536 := by unfold kindOf; omega
def kindBits (c n : Nat) : Nat := n &&& 15 ||| (c &&& 1) * 16 ||| (n &&& 112) * 2 ||| (c &&& 2) * 128 ||| (n &&& 3968) * 4
theorem kindBits_fin : ∀ c : Fin 4, ∀ x : Fin 64, ∀ y : Fin 64, kindBits c.val (x.val * 64 + y.val) = kindOf c.val (x.val * 64 + y.val) := by decide +kernel
theorem kindBits_eq (c m : Nat) (h1 : c ≤ 3) (h3 : m ≤ 4095) : kindBits c m = kindOf c m := by
  have := kindBits_fin ⟨c, by omega⟩ ⟨m / 64, by omega⟩ ⟨m % 64, by omega⟩
  simp only at this
  rwa [show m / 64 * 64 + m % 64 = m by omega] at this
def SMsg.good (m : SMsg) : Bool := m.attrs.all (fun a => decide (a.2.length ≤ 512)) && decide (0 ≤ m.cls) && decide (m.cls ≤ 3) && decide (0 ≤ m.mth) && decide (m.mth ≤ 4095) && decide (m.attrs.length ≤ 16)
def SMsg.whole (m : SMsg) : List UInt8 := be2 (kindOf m.cls.toNat m.mth.toNat) ++ be2 (bodyFrom [] m.attrs).length ++ magicB ++ m.id ++ bodyFrom [] m.attrs
/-- the bytes, or none -/
def SMsg.build (m : SMsg) : Option (List UInt8) := if m.good ∧ m.whole.length ≤ 1500 then some m.whole else none
def ob (o : Option (List UInt8)) : List UInt8 := o.getD []
def oe (o : Option (List UInt8)) : Nat := if o.isSome then 0 else 1

@[simp] theorem attrB_length (a : PA) : (attrB a).length = 4 + a.2.length := by simp [attrB, be2]; omega
theorem bodyFrom_head (h : List UInt8) (hh : h.length % 4 = 0) (xs : List PA) : ∀ b : List UInt8, bodyFrom (h ++ b) xs = h ++ bodyFrom b xs := by
  induction xs with
  | nil => intro b; rfl
  | cons a xs ih =>
    intro b
    show bodyFrom (pad4 (h ++ b ++ attrB a)) xs = h ++ bodyFrom (pad4 (b ++ attrB a)) xs
    rw [List.append_assoc, pad4_head _ _ hh, ih]
theorem bodyFrom_snoc (b : List UInt8) (xs : List PA) (a : PA) : bodyFrom b (xs ++ [a]) = pad4 (bodyFrom b xs ++ attrB a) := by simp [bodyFrom]
theorem bodyFrom_le (xs : List PA) : ∀ b : List UInt8, (∀ a ∈ xs, a.2.length ≤ 512) → (bodyFrom b xs).length ≤ b.length + 520 * xs.length := by
  induction xs with
  | nil => intro b _; simp [bodyFrom]
  | cons a xs ih =>
    intro b h
    show (bodyFrom (pad4 (b ++ attrB a)) xs).length ≤ _
    have h1 := ih (pad4 (b ++ attrB a)) (fun x hx => h x (List.mem_cons_of_mem _ hx))
    have h2 := pad4_length (b ++ attrB a)
    have h3 := h a (by simp)
    simp only [List.length_append, attrB_length, List.length_cons] at *
    omega
/-- the bytes as they are before the length is written -/
def SMsg.draft (m : SMsg) : List UInt8 := bodyFrom (be2 (kindOf m.cls.toNat m.mth.toNat) ++ be2 0 ++ magicB ++ m.id) m.attrs
theorem draft_eq (m : SMsg) (h : m.id.length = 12) : m.draft = be2 (kindOf m.cls.toNat m.mth.toNat) ++ be2 0 ++ magicB ++ m.id ++ bodyFrom [] m.attrs := by
  have := bodyFrom_head (be2 (kindOf m.cls.toNat m.mth.toNat) ++ be2 0 ++ magicB ++ m.id) (by simp [magicB, h, be2, be4]) m.attrs []
  simpa [SMsg.draft] using this
theorem draft_length (m : SMsg) (h : m.id.length = 12) : m.draft.length = m.whole.length := by rw [draft_eq m h]; simp [SMsg.whole, be2]
theorem draft_len20 (m : SMsg) (h : m.id.length = 12) : m.draft.length = 20 + (bodyFrom [] m.attrs).length := by rw [draft_eq m h]; simp [be2, be4, magicB, h]; omega
/-- the length, written into the third and fourth place -/
def setLen (l : List UInt8) (n : Nat) : List UInt8 := (l.set 2 (UInt8.ofNat ((n - 20) / 256))).set 3 (UInt8.ofNat (n - 20))
theorem setLen_len (l : List UInt8) (n : Nat) : (setLen l n).length = l.length := by simp [setLen]
theorem draft_set (m : SMsg) (h : m.id.length = 12) : setLen m.draft m.draft.length = m.whole := by
  have e : m.draft.length - 20 = (bodyFrom [] m.attrs).length := by
    rw [draft_len20 m h]; omega
  rw [setLen, e, draft_eq m h]
  simp [SMsg.whole, be2]
/-! ### in memory -/
def SM (c m : Int) (f : Nat → UInt8) (s : Sl At) : SMsg := ⟨c, m, idL f, s.l.map pl⟩
theorem msg_id (c m : Int) (f : Nat → UInt8) (s : Value) : ∀ j u, ((idL f).map v8)[j]? = some u → (msgC c m f s)[2 + j]? = some u := by
  intro j u hu
  have hj : j < 12 := by have := (List.getElem?_eq_some_iff.1 hu).1; simpa using this
  rw [← hu]
  rcases show j = 0 ∨ j = 1 ∨ j = 2 ∨ j = 3 ∨ j = 4 ∨ j = 5 ∨ j = 6 ∨ j = 7 ∨ j = 8 ∨ j = 9 ∨ j = 10 ∨ j = 11 by omega with rfl | rfl | rfl | rfl | rfl | rfl | rfl | rfl | rfl | rfl | rfl | rfl <;> rfl
theorem readsId {b T : Nat} {c m : Int} {f : Nat → UInt8} {s : Value} : Reads (SA.blk b (msgC c m f s) T) 1 (.slice (some ⟨b, 2, none⟩) 12 12) 12 ((idL f).map v8) := fun w O R h => by
  refine ⟨rfl, one8, some ⟨b, 2, none⟩, 12, rfl, Nat.le_refl _, by decide, by simp, ?_⟩
  intro p hp j u hu
  cases hp
  have hj : j < 12 := by have := (List.getElem?_eq_some_iff.1 hu).1; simpa using this
  rw [Addr.add_lit, h.2.cell]
  rw [← hu]
  rcases show j = 0 ∨ j = 1 ∨ j = 2 ∨ j = 3 ∨ j = 4 ∨ j = 5 ∨ j = 6 ∨ j = 7 ∨ j = 8 ∨ j = 9 ∨ j = 10 ∨ j = 11 by omega with rfl | rfl | rfl | rfl | rfl | rfl | rfl | rfl | rfl | rfl | rfl | rfl <;> rfl
end stun
end Go.Proofs.Ytpmplnkempcmjaa

/- stun.Build, walked. -/
namespace Go.Proofs.Ytpmplnkempcmjaa
set_option linter.unusedVariables false
set_option linter.unusedSimpArgs false
open Go.RowKit
namespace stun
open wr (pad4 pad4_length pad4_mod pad4_head pad4_step pad4_done be16 be32)
open r1 (be2 be4 be2_len be4_len)
namespace FxStunB
set_option maxRecDepth 100000
theorem ag58 : Program.aggN Try.prog 58 = some 15 := by kernel_rfl
theorem ag76 : Program.aggN Try.prog 76 = some 2 := by kernel_rfl
theorem fo58_0 : Program.fieldOff Try.prog 58 0 = some 0 := by kernel_rfl
theorem fo58_1 : Program.fieldOff Try.prog 58 1 = some 1 := by kernel_rfl
theorem fo58_2 : Program.fieldOff Try.prog 58 2 = some 2 := by kernel_rfl
theorem fo58_3 : Program.fieldOff Try.prog 58 3 = some 14 := by kernel_rfl
theorem fo76_0 : Program.fieldOff Try.prog 76 0 = some 0 := by kernel_rfl
theorem fo76_1 : Program.fieldOff Try.prog 76 1 = some 1 := by kernel_rfl
theorem sc22 : Program.isSc Try.prog 22 = true := by kernel_rfl
theorem sc3 : Program.isSc Try.prog 3 = true := by kernel_rfl
theorem sc30 : Program.isSc Try.prog 30 = true := by kernel_rfl
theorem sc56 : Program.isSc Try.prog 56 = true := by kernel_rfl
theorem sc96 : Program.isSc Try.prog 96 = true := by kernel_rfl
theorem sl30 : Program.slI Try.prog 30 = some 1 := by kernel_rfl
theorem sl56 : Program.slI Try.prog 56 = some 2 := by kernel_rfl
theorem sz5 : (Try.prog.info? 5).map (·.size) = some 1 := by kernel_rfl
theorem sz76 : (Try.prog.info? 76).map (·.size) = some 2 := by kernel_rfl
theorem zc76 : Program.zeroC Try.prog 76 = some #[.int .u16 0, .slice none 0 0] := by kernel_rfl
theorem zc96 : Program.zeroC Try.prog 96 = some #[.slice none 0 0] := by kernel_rfl
end FxStunB
open FxStunB
theorem all_take_succ {α : Type} (p : α → Bool) (l : List α) (j : Nat) (x : α) (h : l[j]? = some x) : (l.take (j + 1)).all p = ((l.take j).all p && p x) := by
  rw [List.take_add_one, h]; simp [Bool.and_comm]
theorem at_pl {l : List At} {k : Nat} {t : UInt16} {a : Option Addr} {c : Nat} {bs : List UInt8} (hx : l[k]? = some (t, ⟨a, c, bs⟩)) : (l.map pl)[k]? = some (t, bs) := by rw [List.getElem?_map, hx]; rfl
theorem good_parts {m : SMsg} (h : m.good = true) : (∀ a ∈ m.attrs, a.2.length ≤ 512) ∧ 0 ≤ m.cls ∧ m.cls ≤ 3 ∧ 0 ≤ m.mth ∧ m.mth ≤ 4095 ∧ m.attrs.length ≤ 16 := by
  simp only [SMsg.good, Bool.and_eq_true, decide_eq_true_eq, List.all_eq_true] at h
  exact ⟨fun a ha => by simpa using h.1.1.1.1.1 a ha, h.1.1.1.1.2, h.1.1.1.2, h.1.1.2, h.1.2, h.2⟩
theorem not_good (m : SMsg) (h : m.cls < 0 ∨ 3 < m.cls ∨ m.mth < 0 ∨ 4095 < m.mth ∨ 16 < m.attrs.length) : m.good = false := by
  cases hg : m.good with
  | false => rfl
  | true => have := good_parts hg; omega
--REG (rostrum/stun.Message).good : _ _ ⟨rfl, rfl⟩ => (stun.good_fn _ _ _ _ _ _ _)
theorem good_fn (c m : Int) (f : Nat → UInt8) (a : Option Addr) (cap : Nat) (l : List At) (L : List SA) :
    Fn Try.prog 37 [.agg (msgC c m f (.slice a l.length cap))] (SA.dat (⟨a, cap, l⟩ : Sl At) :: L) (fun v L' => v = .bool (SM c m f ⟨a, cap, l⟩).good ∧ L' = SA.dat (⟨a, cap, l⟩ : Sl At) :: L) := by
  refine Fn.of (N := 41) Try.func37 rfl rfl ?_
  intro Xh
  refine TC.know (dat_cap (a := a) inn) ?_
  rintro ⟨hc1, hc2, -⟩
  refine TC.seq ?_
  refine TC.region ?_
  refine TL.eff rfl rfl rfl (X.boxA rfl rfl) ?_
  rintro _ _ ⟨b1, rfl, rfl⟩
  refine TL.val rfl rfl rfl (Y.assign rfl rfl) ?_
  refine TL.nil ?_
  refine TQ.next ?_
  refine TC.seq ?_
  refine TC.seq ?_
  refine TC.region ?_
  refine TL.val rfl rfl rfl (by first | exact Y.fieldAddrJ rfl fo58_3 rfl nqq | exact Y.fieldAddr rfl fo58_3 rfl nqq) ?_
  refine TL.val rfl rfl rfl (Y.load rfl sc56 rfl celD) ?_
  refine TL.val rfl rfl rfl (Y.len rfl Try.underlying56 rfl) ?_
  refine TL.val rfl rfl rfl (Y.move rfl rfl) ?_
  refine TL.nil ?_
  refine TQ.next ?_
  refine TC.block ?_
  refine TC.loopF (ι := Nat) [2] (fun k => k ≤ l.length ∧ ((l.map pl).take k).all (fun a => decide (a.2.length ≤ 512)) = true) (fun k => [(8, some (vN k))]) (fun k => []) (fun k => l.length - k) (0) (⟨by omega, by simp⟩) ⟨rfl, trivial⟩ Pulls.nil ?_
  rintro k ⟨hk, hall⟩ F' L' rfl hL'
  simp only [List.cons_append, List.nil_append] at hL'
  subst hL'
  refine TC.seq ?_
  refine TC.region ?_
  refine TL.val rfl rfl rfl (Y.bin rfl rfl rfl (br_ltN)) ?_
  refine TL.nil ?_
  refine TQ.next ?_
  refine TC.seq ?_
  refine TC.cond rfl (fun c0 => ?_) (fun c0 => ?_)
  · try simp only [decide_eq_true_eq, decide_eq_false_iff_not, Bool.not_eq_true', Bool.not_eq_false', Bool.and_eq_true, Bool.or_eq_true, Nat.not_lt, Nat.not_le, beq_iff_eq, bne_iff_ne] at c0
    refine TC.skip ?_
    refine TQ.next ?_
    refine TC.seq ?_
    refine TC.block ?_
    refine TC.seq ?_
    obtain ⟨⟨t, a1, ac, bs⟩, hx, hxm⟩ := getS (l := l) (i := k) (by omega)
    refine TC.know (dat_some (a := a) inn (by omega)) ?_
    rintro ⟨g, off, rfl⟩
    have hp := at_pl hx
    refine TC.region ?_
    refine TL.val rfl rfl rfl (by first | exact Y.indexSlB rfl sl56 rfl rfl (by omega) nqq | exact Y.indexSl rfl sl56 rfl rfl (by omega) nqq) ?_
    refine TL.val rfl rfl rfl (Y.loadAgg rfl ag76 rfl (by first | exact Cels.datAt inn (by assumption) | exact Cels.full inn) (by first | rfl | ((try simp only [List.length_map, List.length_set, List.length_replicate]); omega))) ?_
    refine TL.as (.agg #[v16 t, .slice a1 bs.length ac]) (by rfl) ?_
    refine TL.eff rfl rfl rfl (X.alloc rfl zc76) ?_
    rintro _ _ ⟨b4, rfl, rfl⟩
    refine TL.eff0 rfl rfl (by first | exact X.storeAll rfl sz76 (by rfl) rfl rfl (allOne (by rfl)) pul (by rfl) | exact X.storeAll rfl sz76 szz rfl rfl (by simp [Value.oneCell']) pul szz | exact X.storeAgg rfl sz76 szz rfl rfl (by simp [Value.oneCell']) pul szz (writeM (by ((try simp only [List.length_set, List.length_map, List.length_append, List.length_replicate]); omega)))) ?_
    rintro _ _ rfl
    refine TL.nil ?_
    refine TQ.next ?_
    refine TC.seq ?_
    refine TC.region ?_
    refine TL.val rfl rfl rfl (by first | exact Y.fieldAddrJ rfl fo76_1 rfl nqq | exact Y.fieldAddr rfl fo76_1 rfl nqq) ?_
    refine TL.val rfl rfl rfl (Y.load rfl sc30 rfl celD) ?_
    refine TL.val rfl rfl rfl (Y.len rfl Try.underlying30 rfl) ?_
    refine TL.val rfl rfl rfl (Y.bin rfl rfl rfl (br_gtN (n := 512))) ?_
    refine TL.nil ?_
    refine TQ.next ?_
    refine TC.cond rfl (fun c1 => ?_) (fun c1 => ?_)
    · try simp only [decide_eq_true_eq, decide_eq_false_iff_not, Bool.not_eq_true', Bool.not_eq_false', Bool.and_eq_true, Bool.or_eq_true, Nat.not_lt, Nat.not_le, beq_iff_eq, bne_iff_ne] at c1
      have hbad : (SM c m f ⟨some ⟨g, off, none⟩, cap, l⟩).good = false := by
        have : (l.map pl).all (fun a => decide (a.2.length ≤ 512)) = false := by
          rw [List.all_eq_false]
          exact ⟨_, List.mem_of_getElem? hp, by simpa using c1⟩
        simp [SMsg.good, SM, this]
      refine TC.seq ?_
      refine TC.region ?_
      refine TL.val rfl rfl rfl (Y.assign rfl rfl) ?_
      refine TL.nil ?_
      refine TQ.next ?_
      refine TC.ret ?_
      refine TQ.block_ret ?_
      refine TQ.then_ret ?_
      refine TQ.then_ret ?_
      refine TQ.block_ret ?_
      refine TQ.then_ret ?_
      refine TQ.retE (res1 rfl rfl) (⟨by first | rw [hbad] | (simp_all [SMsg.good, SM]; done) | (rw [not_good (SM c m f _) (by simp only [SM, List.length_map]; omega)]), rfl⟩) ?_
      exact ett
    · try simp only [decide_eq_true_eq, decide_eq_false_iff_not, Bool.not_eq_true', Bool.not_eq_false', Bool.and_eq_true, Bool.or_eq_true, Nat.not_lt, Nat.not_le, beq_iff_eq, bne_iff_ne] at c1
      refine TC.skip ?_
      refine TQ.block_normal ?_
      refine TQ.next ?_
      refine TC.region ?_
      refine TL.val rfl rfl rfl (Y.bin rfl rfl rfl (br_addN (n := 1) (by omega))) ?_
      refine TL.val rfl rfl rfl (Y.move rfl rfl) ?_
      refine TL.nil ?_
      refine TQ.loopF (k + 1) (⟨by omega, by rw [all_take_succ _ _ _ _ hp, hall]; simpa using c1⟩) (by omega) ⟨rfl, trivial⟩ (by (repeat first | apply Grow.refl | apply Grow.step | apply Grow.app)) ?_ ?_ ?_
      · kernel_rfl
      · rfl
      · simp only [List.cons_append, List.nil_append]
        exact ett
  · try simp only [decide_eq_true_eq, decide_eq_false_iff_not, Bool.not_eq_true', Bool.not_eq_false', Bool.and_eq_true, Bool.or_eq_true, Nat.not_lt, Nat.not_le, beq_iff_eq, bne_iff_ne] at c0
    refine TC.exit ?_
    refine TQ.then_exit ?_
    refine TQ.then_exit ?_
    refine TQ.block_exit ?_
    refine TQ.next ?_
    refine TC.seq ?_
    obtain rfl : k = l.length := by omega
    have hall' : (l.map pl).all (fun a => decide (a.2.length ≤ 512)) = true := by
      rw [← List.length_map (f := pl), List.take_length] at hall; exact hall
    refine TC.region ?_
    refine TL.val rfl rfl rfl (by first | exact Y.fieldAddrJ rfl fo58_0 rfl nqq | exact Y.fieldAddr rfl fo58_0 rfl nqq) ?_
    refine TL.val rfl rfl rfl (Y.load rfl sc3 rfl celN) ?_
    refine TL.val rfl rfl rfl (Y.bin rfl rfl rfl (br_geI (n := 0))) ?_
    refine TL.val rfl rfl rfl (Y.move rfl rfl) ?_
    refine TL.case (fun g7_3 => ?_) (fun g7_3 => ?_)
    · try simp only [decide_eq_true_eq, decide_eq_false_iff_not, Bool.not_eq_true', Bool.not_eq_false', Nat.not_lt, Nat.not_le, beq_iff_eq, bne_iff_ne] at g7_3
      refine TL.valG rfl rfl rfl (by first | exact Y.fieldAddrJ rfl fo58_0 rfl nqq | exact Y.fieldAddr rfl fo58_0 rfl nqq) ?_
      refine TL.valG rfl rfl rfl (Y.load rfl sc3 rfl celN) ?_
      refine TL.valG rfl rfl rfl (Y.bin rfl rfl rfl (br_leI (n := 3))) ?_
      refine TL.val rfl rfl rfl (Y.pick_t rfl rfl rfl) ?_
      refine TL.val rfl rfl rfl (Y.move rfl rfl) ?_
      refine TL.case (fun g7_8 => ?_) (fun g7_8 => ?_)
      · try simp only [decide_eq_true_eq, decide_eq_false_iff_not, Bool.not_eq_true', Bool.not_eq_false', Nat.not_lt, Nat.not_le, beq_iff_eq, bne_iff_ne] at g7_8
        refine TL.valG rfl rfl rfl (by first | exact Y.fieldAddrJ rfl fo58_1 rfl nqq | exact Y.fieldAddr rfl fo58_1 rfl nqq) ?_
        refine TL.valG rfl rfl rfl (Y.load rfl sc3 rfl celN) ?_
        refine TL.valG rfl rfl rfl (Y.bin rfl rfl rfl (br_geI (n := 0))) ?_
        refine TL.val rfl rfl rfl (Y.pick_t rfl rfl rfl) ?_
        refine TL.val rfl rfl rfl (Y.move rfl rfl) ?_
        refine TL.case (fun g7_13 => ?_) (fun g7_13 => ?_)
        · try simp only [decide_eq_true_eq, decide_eq_false_iff_not, Bool.not_eq_true', Bool.not_eq_false', Nat.not_lt, Nat.not_le, beq_iff_eq, bne_iff_ne] at g7_13
          refine TL.valG rfl rfl rfl (by first | exact Y.fieldAddrJ rfl fo58_1 rfl nqq | exact Y.fieldAddr rfl fo58_1 rfl nqq) ?_
          refine TL.valG rfl rfl rfl (Y.load rfl sc3 rfl celN) ?_
          refine TL.valG rfl rfl rfl (Y.bin rfl rfl rfl (br_leI (n := 4095))) ?_
          refine TL.val rfl rfl rfl (Y.pick_t rfl rfl rfl) ?_
          refine TL.val rfl rfl rfl (Y.move rfl rfl) ?_
          refine TL.case (fun g7_18 => ?_) (fun g7_18 => ?_)
          · try simp only [decide_eq_true_eq, decide_eq_false_iff_not, Bool.not_eq_true', Bool.not_eq_false', Nat.not_lt, Nat.not_le, beq_iff_eq, bne_iff_ne] at g7_18
            refine TL.valG rfl rfl rfl (by first | exact Y.fieldAddrJ rfl fo58_3 rfl nqq | exact Y.fieldAddr rfl fo58_3 rfl nqq) ?_
            refine TL.valG rfl rfl rfl (Y.load rfl sc56 rfl celD) ?_
            refine TL.valG rfl rfl rfl (Y.len rfl Try.underlying56 rfl) ?_
            refine TL.valG rfl rfl rfl (Y.bin rfl rfl rfl (br_leN (n := 16))) ?_
            refine TL.val rfl rfl rfl (Y.pick_t rfl rfl rfl) ?_
            refine TL.val rfl rfl rfl (Y.assign rfl rfl) ?_
            refine TL.nil ?_
            refine TQ.next ?_
            refine TC.ret ?_
            refine TQ.retE (res1 rfl rfl) (⟨by first | rw [hbad] | (simp_all [SMsg.good, SM]; done) | (rw [not_good (SM c m f _) (by simp only [SM, List.length_map]; omega)]), rfl⟩) ?_
            exact ett
          · try simp only [decide_eq_true_eq, decide_eq_false_iff_not, Bool.not_eq_true', Bool.not_eq_false', Nat.not_lt, Nat.not_le, beq_iff_eq, bne_iff_ne] at g7_18
            refine TL.not rfl rfl rfl ?_
            refine TL.not rfl rfl rfl ?_
            refine TL.not rfl rfl rfl ?_
            refine TL.not rfl rfl rfl ?_
            refine TL.val rfl rfl rfl (Y.pick_f rfl rfl rfl) ?_
            refine TL.val rfl rfl rfl (Y.assign rfl rfl) ?_
            refine TL.nil ?_
            refine TQ.next ?_
            refine TC.ret ?_
            refine TQ.retE (res1 rfl rfl) (⟨by first | rw [hbad] | (simp_all [SMsg.good, SM]; done) | (rw [not_good (SM c m f _) (by simp only [SM, List.length_map]; omega)]), rfl⟩) ?_
            exact ett
        · try simp only [decide_eq_true_eq, decide_eq_false_iff_not, Bool.not_eq_true', Bool.not_eq_false', Nat.not_lt, Nat.not_le, beq_iff_eq, bne_iff_ne] at g7_13
          refine TL.not rfl rfl rfl ?_
          refine TL.not rfl rfl rfl ?_
          refine TL.not rfl rfl rfl ?_
          refine TL.val rfl rfl rfl (Y.pick_f rfl rfl rfl) ?_
          refine TL.val rfl rfl rfl (Y.move rfl rfl) ?_
          refine TL.not rfl rfl rfl ?_
          refine TL.not rfl rfl rfl ?_
          refine TL.not rfl rfl rfl ?_
          refine TL.not rfl rfl rfl ?_
          refine TL.val rfl rfl rfl (Y.pick_f rfl rfl rfl) ?_
          refine TL.val rfl rfl rfl (Y.assign rfl rfl) ?_
          refine TL.nil ?_
          refine TQ.next ?_
          refine TC.ret ?_
          refine TQ.retE (res1 rfl rfl) (⟨by first | rw [hbad] | (simp_all [SMsg.good, SM]; done) | (rw [not_good (SM c m f _) (by simp only [SM, List.length_map]; omega)]), rfl⟩) ?_
          exact ett
      · try simp only [decide_eq_true_eq, decide_eq_false_iff_not, Bool.not_eq_true', Bool.not_eq_false', Nat.not_lt, Nat.not_le, beq_iff_eq, bne_iff_ne] at g7_8
        refine TL.not rfl rfl rfl ?_
        refine TL.not rfl rfl rfl ?_
        refine TL.not rfl rfl rfl ?_
        refine TL.val rfl rfl rfl (Y.pick_f rfl rfl rfl) ?_
        refine TL.val rfl rfl rfl (Y.move rfl rfl) ?_
        refine TL.not rfl rfl rfl ?_
        refine TL.not rfl rfl rfl ?_
        refine TL.not rfl rfl rfl ?_
        refine TL.val rfl rfl rfl (Y.pick_f rfl rfl rfl) ?_
        refine TL.val rfl rfl rfl (Y.move rfl rfl) ?_
        refine TL.not rfl rfl rfl ?_
        refine TL.not rfl rfl rfl ?_
        refine TL.not rfl rfl rfl ?_
        refine TL.not rfl rfl rfl ?_
        refine TL.val rfl rfl rfl (Y.pick_f rfl rfl rfl) ?_
        refine TL.val rfl rfl rfl (Y.assign rfl rfl) ?_
        refine TL.nil ?_
        refine TQ.next ?_
        refine TC.ret ?_
        refine TQ.retE (res1 rfl rfl) (⟨by first | rw [hbad] | (simp_all [SMsg.good, SM]; done) | (rw [not_good (SM c m f _) (by simp only [SM, List.length_map]; omega)]), rfl⟩) ?_
        exact ett
    · try simp only [decide_eq_true_eq, decide_eq_false_iff_not, Bool.not_eq_true', Bool.not_eq_false', Nat.not_lt, Nat.not_le, beq_iff_eq, bne_iff_ne] at g7_3
      refine TL.not rfl rfl rfl ?_
      refine TL.not rfl rfl rfl ?_
      refine TL.not rfl rfl rfl ?_
      refine TL.val rfl rfl rfl (Y.pick_f rfl rfl rfl) ?_
      refine TL.val rfl rfl rfl (Y.move rfl rfl) ?_
      refine TL.not rfl rfl rfl ?_
      refine TL.not rfl rfl rfl ?_
      refine TL.not rfl rfl rfl ?_
      refine TL.val rfl rfl rfl (Y.pick_f rfl rfl rfl) ?_
      refine TL.val rfl rfl rfl (Y.move rfl rfl) ?_
      refine TL.not rfl rfl rfl ?_
      refine TL.not rfl rfl rfl ?_
      refine TL.not rfl rfl rfl ?_
      refine TL.val rfl rfl rfl (Y.pick_f rfl rfl rfl) ?_
      refine TL.val rfl rfl rfl (Y.move rfl rfl) ?_
      refine TL.not rfl rfl rfl ?_
      refine TL.not rfl rfl rfl ?_
      refine TL.not rfl rfl rfl ?_
      refine TL.not rfl rfl rfl ?_
      refine TL.val rfl rfl rfl (Y.pick_f rfl rfl rfl) ?_
      refine TL.val rfl rfl rfl (Y.assign rfl rfl) ?_
      refine TL.nil ?_
      refine TQ.next ?_
      refine TC.ret ?_
      refine TQ.retE (res1 rfl rfl) (⟨by first | rw [hbad] | (simp_all [SMsg.good, SM]; done) | (rw [not_good (SM c m f _) (by simp only [SM, List.length_map]; omega)]), rfl⟩) ?_
      exact ett
theorem size_fn (g off n cap k : Nat) (l : List UInt8) (hl : l.length = n) (hn : 4 ≤ n) (h1 : 20 ≤ k) (h2 : k < 9223372036854775808) (L : List SA) :
    Fn Try.prog 47 [.slice (some ⟨g, off, none⟩) n cap, vN k] (SA.owns 5 1 (.slice (some ⟨g, off, none⟩) n cap) n (l.map v8) :: L)
      (fun v L' => v = .tuple #[] ∧ L' = SA.owns 5 1 (.slice (some ⟨g, off, none⟩) n cap) n ((setLen l k).map v8) :: L) := by
  refine Fn.of (N := 15) Try.func47 rfl rfl ?_
  intro Xh
  refine TC.region ?_
  refine TL.val rfl rfl rfl (Y.move rfl rfl) ?_
  refine TL.val rfl rfl rfl (Y.move rfl rfl) ?_
  refine TL.val rfl rfl rfl (Y.move rfl rfl) ?_
  refine TL.val rfl rfl rfl (Y.bin rfl rfl rfl (br_subN (n := 20) (by omega) (by omega))) ?_
  refine TL.val rfl rfl rfl (Y.bin rfl rfl rfl (br_shrN (n := 8) (c := 256) rfl (by omega))) ?_
  refine TL.val rfl rfl rfl (Y.conv rfl Try.underlying3 Try.underlying5 rfl (cv_N_8)) ?_
  refine TL.val rfl rfl rfl (Y.move rfl rfl) ?_
  refine TL.val rfl rfl rfl (Y.bin rfl rfl rfl (br_subN (n := 20) (by omega) (by omega))) ?_
  refine TL.val rfl rfl rfl (Y.conv rfl Try.underlying3 Try.underlying5 rfl (cv_N_8)) ?_
  refine TL.val rfl rfl rfl (by first | exact Y.indexSlB (j := 2) rfl sl30 rfl rfl (by omega) nqq | exact Y.indexSl (j := 2) rfl sl30 rfl rfl (by omega) nqq) ?_
  refine TL.eff0 rfl rfl (by first | exact X.store rfl sz5 rfl rfl rfl pul lnn (by first | exact setM | rfl) | exact X.storeOwn rfl sz5 rfl (Nat.zero_add _).symm rfl rfl pul lnn (by first | exact setML | rfl) | exact X.storeOwn rfl sz5 rfl rfl rfl rfl pul lnn (by first | exact setML | rfl)) ?_
  rintro _ _ rfl
  refine TL.val rfl rfl rfl (by first | exact Y.indexSlB (j := 3) rfl sl30 rfl rfl (by omega) nqq | exact Y.indexSl (j := 3) rfl sl30 rfl rfl (by omega) nqq) ?_
  refine TL.eff0 rfl rfl (by first | exact X.store rfl sz5 rfl rfl rfl pul lnn (by first | exact setM | rfl) | exact X.storeOwn rfl sz5 rfl (Nat.zero_add _).symm rfl rfl pul lnn (by first | exact setML | rfl) | exact X.storeOwn rfl sz5 rfl rfl rfl rfl pul lnn (by first | exact setML | rfl)) ?_
  rintro _ _ rfl
  refine TL.nil ?_
  refine TQ.endE (res0 rfl) (⟨rfl, rfl⟩) ?_
  exact ett
theorem be32_magic : be32 554869826 = magicB := by decide
theorem take_len_le {l : List At} {k : Nat} : (bodyFrom [] ((l.map pl).take k)).length ≤ (bodyFrom [] ((l.map pl).take k)).length := Nat.le_refl _
theorem body_take {as' : List PA} {k : Nat} {a : PA} (h : as'[k]? = some a) (b : List UInt8) : bodyFrom b (as'.take (k + 1)) = pad4 (bodyFrom b (as'.take k) ++ attrB a) := by
  rw [List.take_add_one, h]; exact bodyFrom_snoc b _ a
theorem body_take_le {as' : List PA} (h : ∀ a ∈ as', a.2.length ≤ 512) (h16 : as'.length ≤ 16) (b : List UInt8) (k : Nat) : (bodyFrom b (as'.take k)).length ≤ b.length + 8320 := by
  have := bodyFrom_le (as'.take k) b (fun a ha => h a (List.mem_of_mem_take ha))
  have h2 : (as'.take k).length ≤ 16 := by rw [List.length_take]; omega
  omega
set_option maxHeartbeats 1000000 in
--REG rostrum/stun.Build : _ _ ⟨a{d}, c{d}, rfl, rfl⟩ => (stun.Build_fn _ _ _ _ _ _ _)
theorem Build_fn (c m : Int) (f : Nat → UInt8) (a : Option Addr) (cap : Nat) (l : List At) (L : List SA) :
    Fn Try.prog 20 [.agg (msgC c m f (.slice a l.length cap))] (SA.dat (⟨a, cap, l⟩ : Sl At) :: L)
      (fun v L' => ∃ b c', v = .tuple #[.slice b (ob (SM c m f ⟨a, cap, l⟩).build).length c', vN (oe (SM c m f ⟨a, cap, l⟩).build)] ∧
        L' = SA.owns 5 1 (.slice b (ob (SM c m f ⟨a, cap, l⟩).build).length c') (ob (SM c m f ⟨a, cap, l⟩).build).length ((ob (SM c m f ⟨a, cap, l⟩).build).map v8) :: SA.dat (⟨a, cap, l⟩ : Sl At) :: L) := by
  refine Fn.of (N := 69) Try.func20 rfl rfl ?_
  intro Xh
  refine TC.seq ?_
  refine TC.region ?_
  refine TL.eff rfl rfl rfl (X.boxA rfl rfl) ?_
  rintro _ _ ⟨b1, rfl, rfl⟩
  refine TL.val rfl rfl rfl (Y.assign rfl rfl) ?_
  refine TL.val rfl rfl rfl (Y.assign rfl rfl) ?_
  refine TL.nil ?_
  refine TQ.next ?_
  refine TC.seq ?_
  refine TC.seq ?_
  refine TC.region ?_
  refine TL.val rfl rfl rfl (Y.loadAgg rfl ag58 rfl (by first | exact Cels.datAt inn (by assumption) | exact Cels.full inn) (by first | rfl | ((try simp only [List.length_map, List.length_set, List.length_replicate]); omega))) ?_
  refine TL.as (.agg (msgC c m f (.slice a l.length cap))) (by rfl) ?_
  refine TL.eff rfl rfl rfl (X.call rfl Try.func37 (by kernel_rfl) rfl rfl (Fn.preE (by repeat first | (with_reducible apply Ent.refl) | (apply Ent.cons; case h => first | (with_reducible (repeat first | apply Pull.here | apply Pull.there); done) | (repeat first | apply Pull.here | apply Pull.there))) (stun.good_fn _ _ _ _ _ _ _))) ?_
  rintro _ _ ⟨rfl, rfl⟩
  refine TL.val rfl rfl rfl (Y.not rfl rfl) ?_
  refine TL.nil ?_
  refine TQ.next ?_
  refine TC.cond rfl (fun c0 => ?_) (fun c0 => ?_)
  · try simp only [decide_eq_true_eq, decide_eq_false_iff_not, Bool.not_eq_true', Bool.not_eq_false', Bool.and_eq_true, Bool.or_eq_true, Nat.not_lt, Nat.not_le, beq_iff_eq, bne_iff_ne] at c0
    have hb : (SM c m f ⟨a, cap, l⟩).build = none := by simp [SMsg.build, c0]
    rw [hb]
    refine TC.to (Ent.nilOwn 5 1) ?_
    refine TC.seq ?_
    refine TC.region ?_
    refine TL.val rfl rfl rfl (Y.assign rfl rfl) ?_
    refine TL.val rfl rfl rfl (Y.assign rfl rfl) ?_
    refine TL.nil ?_
    refine TQ.next ?_
    refine TC.ret ?_
    refine TQ.then_ret ?_
    refine TQ.retE (res2 rfl rfl rfl) (⟨_, _, rfl, rfl⟩) ?_
    exact ett
  · try simp only [decide_eq_true_eq, decide_eq_false_iff_not, Bool.not_eq_true', Bool.not_eq_false', Bool.and_eq_true, Bool.or_eq_true, Nat.not_lt, Nat.not_le, beq_iff_eq, bne_iff_ne] at c0
    obtain ⟨g1, g2, g3, g4, g5, g6⟩ := good_parts c0
    obtain ⟨cn, rfl⟩ : ∃ n : Nat, c = n := ⟨c.toNat, by simp only [SM] at g2; omega⟩
    obtain ⟨mn, rfl⟩ : ∃ n : Nat, m = n := ⟨m.toNat, by simp only [SM] at g4; omega⟩
    have hcn : cn ≤ 3 := by simp only [SM] at g3; omega
    have hmn : mn ≤ 4095 := by simp only [SM] at g5; omega
    have hl16 : l.length ≤ 16 := by
      have h := g6
      rw [show (SM (cn : Int) (mn : Int) f ⟨a, cap, l⟩).attrs = l.map pl from rfl, List.length_map] at h
      exact h
    have q1 : cn &&& 1 ≤ 1 := Nat.and_le_right
    have q2 : cn &&& 2 ≤ 2 := Nat.and_le_right
    have q3 : mn &&& 15 ≤ 15 := Nat.and_le_right
    have q4 : mn &&& 112 ≤ 112 := Nat.and_le_right
    have q5 : mn &&& 3968 ≤ 3968 := Nat.and_le_right
    have o1 : mn &&& 15 ||| (cn &&& 1) * 16 < 16384 := Nat.or_lt_two_pow (n := 14) (by omega) (by omega)
    have o2 : mn &&& 15 ||| (cn &&& 1) * 16 ||| (mn &&& 112) * 2 < 16384 := Nat.or_lt_two_pow (n := 14) (by omega) (by omega)
    have o3 : mn &&& 15 ||| (cn &&& 1) * 16 ||| (mn &&& 112) * 2 ||| (cn &&& 2) * 128 < 16384 := Nat.or_lt_two_pow (n := 14) (by omega) (by omega)
    have hkb := kindBits_eq cn mn hcn hmn
    have hkl := kindOf_lt cn mn hcn hmn
    refine TC.skip ?_
    refine TQ.next ?_
    refine TC.seq ?_
    refine TC.region ?_
    refine TL.eff rfl rfl rfl (X.alloc rfl zc96) ?_
    rintro _ _ ⟨b4, rfl, rfl⟩
    refine TL.nil ?_
    refine TQ.to wr.mk0 ?_
    refine TQ.next ?_
    refine TC.seq ?_
    refine TC.draws 6 _ (by kernel_rfl) (by kernel_rfl) (fun _ h => h) ?_
    refine TA.take 0 rfl rfl rfl rfl (by kernel_rfl) (by kernel_rfl) (by kernel_rfl) rfl (by kernel_rfl) (by kernel_rfl) (fun _ _ _ h => h) (by first | exact Y.fieldAddrJ rfl fo58_0 rfl nqq | exact Y.fieldAddr rfl fo58_0 rfl nqq) ?_
    refine TA.take 1 rfl rfl rfl rfl (by kernel_rfl) (by kernel_rfl) (by kernel_rfl) rfl (by kernel_rfl) (by kernel_rfl) (fun _ _ _ h => h) (Y.load rfl sc3 rfl celN) ?_
    refine TA.take 2 rfl rfl rfl rfl (by kernel_rfl) (by kernel_rfl) (by kernel_rfl) rfl (by kernel_rfl) (by kernel_rfl) (fun _ _ _ h => h) (by first | exact Y.fieldAddrJ rfl fo58_1 rfl nqq | exact Y.fieldAddr rfl fo58_1 rfl nqq) ?_
    refine TA.take 3 rfl rfl rfl rfl (by kernel_rfl) (by kernel_rfl) (by kernel_rfl) rfl (by kernel_rfl) (by kernel_rfl) (fun _ _ _ h => h) (Y.load rfl sc3 rfl celN) ?_
    refine TA.take 4 rfl rfl rfl rfl (by kernel_rfl) (by kernel_rfl) (by kernel_rfl) rfl (by kernel_rfl) (by kernel_rfl) (fun _ _ _ h => h) (Y.assign rfl rfl) ?_
    refine TA.take 5 rfl rfl rfl rfl (by kernel_rfl) (by kernel_rfl) (by kernel_rfl) rfl (by kernel_rfl) (by kernel_rfl) (fun _ _ _ h => h) (Y.assign rfl rfl) ?_
    refine TA.done (by kernel_rfl) ?_
    refine TQ.next ?_
    refine TC.seq ?_
    refine TC.region ?_
    refine TL.val rfl rfl rfl (Y.move rfl rfl) ?_
    refine TL.val rfl rfl rfl (Y.bin rfl rfl rfl (br_andN (n := 15) (by omega) (by omega))) ?_
    refine TL.val rfl rfl rfl (Y.move rfl rfl) ?_
    refine TL.val rfl rfl rfl (Y.bin rfl rfl rfl (br_andN (n := 1) (by omega) (by omega))) ?_
    refine TL.val rfl rfl rfl (Y.bin rfl rfl rfl (br_shlN (n := 4) (c := 16) rfl (by omega) (by omega))) ?_
    refine TL.val rfl rfl rfl (Y.bin rfl rfl rfl (br_orN (by omega) (by omega))) ?_
    refine TL.val rfl rfl rfl (Y.move rfl rfl) ?_
    refine TL.val rfl rfl rfl (Y.bin rfl rfl rfl (br_andN (n := 112) (by omega) (by omega))) ?_
    refine TL.val rfl rfl rfl (Y.bin rfl rfl rfl (br_shlN (n := 1) (c := 2) rfl (by omega) (by omega))) ?_
    refine TL.val rfl rfl rfl (Y.bin rfl rfl rfl (br_orN (by omega) (by omega))) ?_
    refine TL.val rfl rfl rfl (Y.move rfl rfl) ?_
    refine TL.val rfl rfl rfl (Y.bin rfl rfl rfl (br_andN (n := 2) (by omega) (by omega))) ?_
    refine TL.val rfl rfl rfl (Y.bin rfl rfl rfl (br_shlN (n := 7) (c := 128) rfl (by omega) (by omega))) ?_
    refine TL.val rfl rfl rfl (Y.bin rfl rfl rfl (br_orN (by omega) (by omega))) ?_
    refine TL.val rfl rfl rfl (Y.move rfl rfl) ?_
    refine TL.val rfl rfl rfl (Y.bin rfl rfl rfl (br_andN (n := 3968) (by omega) (by omega))) ?_
    refine TL.val rfl rfl rfl (Y.bin rfl rfl rfl (br_shlN (n := 2) (c := 4) rfl (by omega) (by omega))) ?_
    refine TL.val rfl rfl rfl (Y.bin rfl rfl rfl (br_orN (by omega) (by omega))) ?_
    refine TL.val rfl rfl rfl (Y.conv rfl Try.underlying3 Try.underlying22 rfl (cv_N_16)) ?_
    refine TL.eff rfl rfl rfl (X.call rfl Try.func43 (by kernel_rfl) rfl rfl (Fn.preE (by repeat first | (with_reducible apply Ent.refl) | (apply Ent.cons; case h => first | (with_reducible (repeat first | apply Pull.here | apply Pull.there); done) | (repeat first | apply Pull.here | apply Pull.there))) (wr.U16_fn _ _ _ (by first | omega | (simp only [List.length_append, List.length_nil, List.length_cons, wr.be16_len, wr.be32_len]; omega) | (simp only [List.length_append, List.length_nil, List.length_cons, wr.be16_len, wr.be32_len, r1.be2_len, r1.be4_len]; omega) | (simp; omega)) _))) ?_
    rintro _ _ ⟨rfl, rfl⟩
    refine TL.nil ?_
    rw [show UInt16.ofNat (mn &&& 15 ||| (cn &&& 1) * 16 ||| (mn &&& 112) * 2 ||| (cn &&& 2) * 128 ||| (mn &&& 3968) * 4) = UInt16.ofNat (kindOf cn mn) from congrArg _ hkb, be16_ofNat _ hkl]
    refine TQ.next ?_
    refine TC.seq ?_
    refine TC.region ?_
    refine TL.eff rfl rfl rfl (X.call rfl Try.func43 (by kernel_rfl) rfl rfl (Fn.preE (by repeat first | (with_reducible apply Ent.refl) | (apply Ent.cons; case h => first | (with_reducible (repeat first | apply Pull.here | apply Pull.there); done) | (repeat first | apply Pull.here | apply Pull.there))) (wr.U16_fn _ 0 _ (by first | omega | (simp only [List.length_append, List.length_nil, List.length_cons, wr.be16_len, wr.be32_len]; omega) | (simp only [List.length_append, List.length_nil, List.length_cons, wr.be16_len, wr.be32_len, r1.be2_len, r1.be4_len]; omega) | (simp; omega)) _))) ?_
    rintro _ _ ⟨rfl, rfl⟩
    refine TL.nil ?_
    refine TQ.next ?_
    refine TC.seq ?_
    refine TC.region ?_
    refine TL.eff rfl rfl rfl (X.call rfl Try.func44 (by kernel_rfl) rfl rfl (Fn.preE (by repeat first | (with_reducible apply Ent.refl) | (apply Ent.cons; case h => first | (with_reducible (repeat first | apply Pull.here | apply Pull.there); done) | (repeat first | apply Pull.here | apply Pull.there))) (wr.U32_fn _ 554869826 _ (by first | omega | (simp only [List.length_append, List.length_nil, List.length_cons, wr.be16_len, wr.be32_len]; omega) | (simp only [List.length_append, List.length_nil, List.length_cons, wr.be16_len, wr.be32_len, r1.be2_len, r1.be4_len]; omega) | (simp; omega)) _))) ?_
    rintro _ _ ⟨rfl, rfl⟩
    refine TL.nil ?_
    rw [be32_magic, show be16 0 = be2 0 from rfl, List.nil_append]
    refine TQ.next ?_
    refine TC.seq ?_
    refine TC.region ?_
    refine TL.val rfl rfl rfl (by first | exact Y.fieldAddrJ rfl fo58_2 rfl nqq | exact Y.fieldAddr rfl fo58_2 rfl nqq) ?_
    refine TL.val rfl rfl rfl (Y.sliceArr rfl Try.underlying40 sz5 rfl) ?_
    refine TL.eff rfl rfl rfl (X.call rfl Try.func45 (by kernel_rfl) rfl rfl (Fn.preE (by repeat first | (with_reducible apply Ent.refl) | (apply Ent.cons; case h => first | (with_reducible (repeat first | apply Pull.here | apply Pull.there); done) | (repeat first | apply Pull.here | apply Pull.there))) (wr.Bytes_fn (SA.blk b1 (msgC cn mn f (.slice a l.length cap)) 58) _ _ _ _ _ (idL f) readsId rfl (by simp [be2, magicB, be4]) _))) ?_
    rintro _ _ ⟨rfl, rfl⟩
    refine TL.nil ?_
    generalize hH : be2 (kindOf cn mn) ++ be2 0 ++ magicB ++ idL f = H
    have hHl : H.length = 20 := by rw [← hH]; simp [be2, magicB, be4]
    refine TQ.next ?_
    refine TC.seq ?_
    refine TC.seq ?_
    refine TC.region ?_
    refine TL.val rfl rfl rfl (by first | exact Y.fieldAddrJ rfl fo58_3 rfl nqq | exact Y.fieldAddr rfl fo58_3 rfl nqq) ?_
    refine TL.val rfl rfl rfl (Y.load rfl sc56 rfl celD) ?_
    refine TL.val rfl rfl rfl (Y.len rfl Try.underlying56 rfl) ?_
    refine TL.val rfl rfl rfl (Y.move rfl rfl) ?_
    refine TL.nil ?_
    refine TQ.next ?_
    refine TC.block ?_
    refine TC.loopF (ι := Nat) [] (fun k => k ≤ l.length) (fun k => [(44, some (vN k))]) (fun k => [wr.W b4 (bodyFrom H ((l.map pl).take k))]) (fun k => l.length - k) (0) (by omega) ⟨rfl, trivial⟩ (Pulls.cons pul Pulls.nil) ?_
    rintro k hk F' L' rfl hL'
    simp only [List.cons_append, List.nil_append] at hL'
    subst hL'
    have hbl := body_take_le (as' := l.map pl) g1 g6 H k
    refine TC.seq ?_
    refine TC.region ?_
    refine TL.val rfl rfl rfl (Y.bin rfl rfl rfl (br_ltN)) ?_
    refine TL.nil ?_
    refine TQ.next ?_
    refine TC.seq ?_
    refine TC.cond rfl (fun c1 => ?_) (fun c1 => ?_)
    · try simp only [decide_eq_true_eq, decide_eq_false_iff_not, Bool.not_eq_true', Bool.not_eq_false', Bool.and_eq_true, Bool.or_eq_true, Nat.not_lt, Nat.not_le, beq_iff_eq, bne_iff_ne] at c1
      refine TC.skip ?_
      refine TQ.next ?_
      refine TC.seq ?_
      refine TC.block ?_
      refine TC.seq ?_
      obtain ⟨⟨t, a1, ac, bs⟩, hx, hxm⟩ := getS (l := l) (i := k) (by omega)
      refine TC.know (dat_some (a := a) inn (by omega)) ?_
      rintro ⟨g, off, rfl⟩
      have hp := at_pl hx
      have hbs : bs.length ≤ 512 := g1 (t, bs) (List.mem_of_getElem? hp)
      refine TC.region ?_
      refine TL.val rfl rfl rfl (by first | exact Y.indexSlB rfl sl56 rfl rfl (by omega) nqq | exact Y.indexSl rfl sl56 rfl rfl (by omega) nqq) ?_
      refine TL.val rfl rfl rfl (Y.loadAgg rfl ag76 rfl (by first | exact Cels.datAt inn (by assumption) | exact Cels.full inn) (by first | rfl | ((try simp only [List.length_map, List.length_set, List.length_replicate]); omega))) ?_
      refine TL.as (.agg #[v16 t, .slice a1 bs.length ac]) (by rfl) ?_
      refine TL.eff rfl rfl rfl (X.alloc rfl zc76) ?_
      rintro _ _ ⟨b8, rfl, rfl⟩
      refine TL.eff0 rfl rfl (by first | exact X.storeAll rfl sz76 (by rfl) rfl rfl (allOne (by rfl)) pul (by rfl) | exact X.storeAll rfl sz76 szz rfl rfl (by simp [Value.oneCell']) pul szz | exact X.storeAgg rfl sz76 szz rfl rfl (by simp [Value.oneCell']) pul szz (writeM (by ((try simp only [List.length_set, List.length_map, List.length_append, List.length_replicate]); omega)))) ?_
      rintro _ _ rfl
      refine TL.nil ?_
      refine TQ.next ?_
      refine TC.seq ?_
      refine TC.region ?_
      refine TL.val rfl rfl rfl (by first | exact Y.fieldAddrJ rfl fo76_0 rfl nqq | exact Y.fieldAddr rfl fo76_0 rfl nqq) ?_
      refine TL.val rfl rfl rfl (Y.load rfl sc22 rfl cel16) ?_
      refine TL.eff rfl rfl rfl (X.call rfl Try.func43 (by kernel_rfl) rfl rfl (Fn.preE (by repeat first | (with_reducible apply Ent.refl) | (apply Ent.cons; case h => first | (with_reducible (repeat first | apply Pull.here | apply Pull.there); done) | (repeat first | apply Pull.here | apply Pull.there))) (wr.U16_fn _ _ _ (by first | omega | (simp only [List.length_append, List.length_nil, List.length_cons, wr.be16_len, wr.be32_len]; omega) | (simp only [List.length_append, List.length_nil, List.length_cons, wr.be16_len, wr.be32_len, r1.be2_len, r1.be4_len]; omega) | (simp; omega)) _))) ?_
      rintro _ _ ⟨rfl, rfl⟩
      refine TL.nil ?_
      refine TQ.next ?_
      refine TC.seq ?_
      refine TC.region ?_
      refine TL.val rfl rfl rfl (by first | exact Y.fieldAddrJ rfl fo76_1 rfl nqq | exact Y.fieldAddr rfl fo76_1 rfl nqq) ?_
      refine TL.val rfl rfl rfl (Y.load rfl sc30 rfl celD) ?_
      refine TL.val rfl rfl rfl (Y.len rfl Try.underlying30 rfl) ?_
      refine TL.val rfl rfl rfl (Y.conv rfl Try.underlying3 Try.underlying22 rfl (cv_N_16)) ?_
      refine TL.eff rfl rfl rfl (X.call rfl Try.func43 (by kernel_rfl) rfl rfl (Fn.preE (by repeat first | (with_reducible apply Ent.refl) | (apply Ent.cons; case h => first | (with_reducible (repeat first | apply Pull.here | apply Pull.there); done) | (repeat first | apply Pull.here | apply Pull.there))) (wr.U16_fn _ _ _ (by first | omega | (simp only [List.length_append, List.length_nil, List.length_cons, wr.be16_len, wr.be32_len]; omega) | (simp only [List.length_append, List.length_nil, List.length_cons, wr.be16_len, wr.be32_len, r1.be2_len, r1.be4_len]; omega) | (simp; omega)) _))) ?_
      rintro _ _ ⟨rfl, rfl⟩
      refine TL.nil ?_
      rw [be16_ofNat _ (by omega), be16_two]
      refine TQ.next ?_
      refine TC.seq ?_
      refine TC.to ((Pull.ent (A := SA.dat (⟨some ⟨g, off, none⟩, cap, l⟩ : Sl At)) pul).trans ((Ent.elem hxm).trans (Ent.snd.trans Ent.bytesOf))) ?_
      refine TC.region ?_
      refine TL.val rfl rfl rfl (by first | exact Y.fieldAddrJ rfl fo76_1 rfl nqq | exact Y.fieldAddr rfl fo76_1 rfl nqq) ?_
      refine TL.val rfl rfl rfl (Y.load rfl sc30 rfl celD) ?_
      refine TL.eff rfl rfl rfl (X.call rfl Try.func45 (by kernel_rfl) rfl rfl (Fn.preE (by repeat first | (with_reducible apply Ent.refl) | (apply Ent.cons; case h => first | (with_reducible (repeat first | apply Pull.here | apply Pull.there); done) | (repeat first | apply Pull.here | apply Pull.there))) (wr.BytesR_fn _ _ _ _ _ _ (by first | assumption | rfl | omega) (by first | omega | (simp only [List.length_append, List.length_nil, List.length_cons, wr.be16_len, wr.be32_len]; omega) | (simp only [List.length_append, List.length_nil, List.length_cons, wr.be16_len, wr.be32_len, r1.be2_len, r1.be4_len]; omega) | (simp; omega)) _))) ?_
      rintro _ _ ⟨rfl, rfl⟩
      refine TL.nil ?_
      refine TQ.next ?_
      refine TC.region ?_
      refine TL.eff rfl rfl rfl (X.call rfl Try.func46 (by kernel_rfl) rfl rfl (Fn.preE (by repeat first | (with_reducible apply Ent.refl) | (apply Ent.cons; case h => first | (with_reducible (repeat first | apply Pull.here | apply Pull.there); done) | (repeat first | apply Pull.here | apply Pull.there))) (wr.Even_fn _ _ (by first | omega | (simp only [List.length_append, List.length_nil, List.length_cons, wr.be16_len, wr.be32_len]; omega) | (simp only [List.length_append, List.length_nil, List.length_cons, wr.be16_len, wr.be32_len, r1.be2_len, r1.be4_len]; omega) | (simp; omega)) _))) ?_
      rintro _ _ ⟨rfl, rfl⟩
      refine TL.nil ?_
      rw [show pad4 (bodyFrom H ((l.map pl).take k) ++ be2 t.toNat ++ be2 bs.length ++ bs) = bodyFrom H ((l.map pl).take (k + 1)) by rw [body_take hp]; simp [attrB]]
      refine TQ.block_normal ?_
      refine TQ.next ?_
      refine TC.region ?_
      refine TL.val rfl rfl rfl (Y.bin rfl rfl rfl (br_addN (n := 1) (by omega))) ?_
      refine TL.val rfl rfl rfl (Y.move rfl rfl) ?_
      refine TL.nil ?_
      refine TQ.loopF (k + 1) (by omega) (by omega) ⟨rfl, trivial⟩ (by (repeat first | apply Grow.refl | apply Grow.step | apply Grow.app)) ?_ ?_ ?_
      · kernel_rfl
      · rfl
      · simp only [List.cons_append, List.nil_append]
        exact ett
    · try simp only [decide_eq_true_eq, decide_eq_false_iff_not, Bool.not_eq_true', Bool.not_eq_false', Bool.and_eq_true, Bool.or_eq_true, Nat.not_lt, Nat.not_le, beq_iff_eq, bne_iff_ne] at c1
      refine TC.exit ?_
      refine TQ.then_exit ?_
      refine TQ.then_exit ?_
      refine TQ.block_exit ?_
      refine TQ.next ?_
      refine TC.seq ?_
      refine TC.seq ?_
      obtain rfl : k = l.length := by omega
      have hdr : bodyFrom H ((l.map pl).take l.length) = (SM cn mn f ⟨a, cap, l⟩).draft := by
        rw [← List.length_map (f := pl), List.take_length, ← hH]; rfl
      rw [hdr]
      have hdl := draft_length (SM cn mn f ⟨a, cap, l⟩) rfl
      have hd20 := draft_len20 (SM cn mn f ⟨a, cap, l⟩) rfl
      generalize hD : (SM cn mn f ⟨a, cap, l⟩).draft = D at *
      refine TC.open pul ?_
      rintro ⟨wa, wc⟩
      refine TC.split pul ?_
      refine TC.region ?_
      refine TL.val rfl rfl rfl (Y.load rfl sc96 rfl celD) ?_
      refine TL.val rfl rfl rfl (Y.len rfl Try.underlying96 rfl) ?_
      refine TL.val rfl rfl rfl (Y.bin rfl rfl rfl (br_gtN (n := 1500))) ?_
      refine TL.nil ?_
      refine TQ.next ?_
      refine TC.cond rfl (fun c2 => ?_) (fun c2 => ?_)
      · try simp only [decide_eq_true_eq, decide_eq_false_iff_not, Bool.not_eq_true', Bool.not_eq_false', Bool.and_eq_true, Bool.or_eq_true, Nat.not_lt, Nat.not_le, beq_iff_eq, bne_iff_ne] at c2
        have hb : (SM cn mn f ⟨a, cap, l⟩).build = none := by simp [SMsg.build, ← hdl]; intro _; omega
        rw [hb]
        refine TC.to (Ent.nilOwn 5 1) ?_
        refine TC.seq ?_
        refine TC.region ?_
        refine TL.val rfl rfl rfl (Y.assign rfl rfl) ?_
        refine TL.val rfl rfl rfl (Y.assign rfl rfl) ?_
        refine TL.nil ?_
        refine TQ.next ?_
        refine TC.ret ?_
        refine TQ.then_ret ?_
        refine TQ.retE (res2 rfl rfl rfl) (⟨_, _, rfl, rfl⟩) ?_
        exact ett
      · try simp only [decide_eq_true_eq, decide_eq_false_iff_not, Bool.not_eq_true', Bool.not_eq_false', Bool.and_eq_true, Bool.or_eq_true, Nat.not_lt, Nat.not_le, beq_iff_eq, bne_iff_ne] at c2
        have hb : (SM cn mn f ⟨a, cap, l⟩).build = some (setLen D D.length) := by
          rw [SMsg.build, if_pos ⟨c0, by rw [← hdl]; omega⟩, ← hD, draft_set _ rfl]
        rw [hb, show ob (some (setLen D D.length)) = setLen D D.length from rfl, setLen_len]
        refine TC.know (owns_some (a := wa) inn (by omega)) ?_
        rintro ⟨wg, woff, rfl⟩
        refine TC.skip ?_
        refine TQ.next ?_
        refine TC.seq ?_
        refine TC.region ?_
        refine TL.val rfl rfl rfl (Y.load rfl sc96 rfl celD) ?_
        refine TL.val rfl rfl rfl (Y.load rfl sc96 rfl celD) ?_
        refine TL.val rfl rfl rfl (Y.len rfl Try.underlying96 rfl) ?_
        refine TL.eff rfl rfl rfl (X.call rfl Try.func47 (by kernel_rfl) rfl rfl (Fn.preE (by repeat first | (with_reducible apply Ent.refl) | (apply Ent.cons; case h => first | (with_reducible (repeat first | apply Pull.here | apply Pull.there); done) | (repeat first | apply Pull.here | apply Pull.there))) (size_fn _ _ _ _ _ _ rfl (by omega) (by omega) (by omega) _))) ?_
        rintro _ _ ⟨rfl, rfl⟩
        refine TL.nil ?_
        refine TQ.next ?_
        refine TC.seq ?_
        refine TC.region ?_
        refine TL.val rfl rfl rfl (Y.load rfl sc96 rfl celD) ?_
        refine TL.val rfl rfl rfl (Y.assign rfl rfl) ?_
        refine TL.val rfl rfl rfl (Y.assign rfl rfl) ?_
        refine TL.nil ?_
        refine TQ.next ?_
        refine TC.ret ?_
        refine TQ.retE (res2 rfl rfl rfl) (⟨_, _, rfl, rfl⟩) ?_
        exact ett
end stun
end Go.Proofs.Ytpmplnkempcmjaa

/- The document's Build, walked. -/
namespace Go.Proofs.Ytpmplnkempcmjaa
set_option linter.unusedVariables false
set_option linter.unusedSimpArgs false
open Go.RowKit
namespace stun
open wr (pad4 pad4_length pad4_mod pad4_head pad4_step pad4_done be16 be32)
open r1 (be2 be4 be2_len be4_len)
namespace FxStunRB
set_option maxRecDepth 100000
theorem el119 : Elt Try.prog 119 30 1 24 (.slice none 0 0) := ⟨Try.underlying119, by kernel_rfl, rfl, by decide, by simp [Value.cells, Value.oneCell']⟩
theorem el30 : Elt Try.prog 30 5 1 1 (.int .u8 0) := ⟨Try.underlying30, by kernel_rfl, rfl, by decide, by simp [Value.cells, Value.oneCell']⟩
theorem fo43_0 : Program.fieldOff Try.prog 43 0 = some 0 := by kernel_rfl
theorem fo43_1 : Program.fieldOff Try.prog 43 1 = some 1 := by kernel_rfl
theorem fo43_2 : Program.fieldOff Try.prog 43 2 = some 2 := by kernel_rfl
theorem fo43_3 : Program.fieldOff Try.prog 43 3 = some 14 := by kernel_rfl
theorem fo77_0 : Program.fieldOff Try.prog 77 0 = some 0 := by kernel_rfl
theorem fo77_1 : Program.fieldOff Try.prog 77 1 = some 1 := by kernel_rfl
theorem sc22 : Program.isSc Try.prog 22 = true := by kernel_rfl
theorem sc3 : Program.isSc Try.prog 3 = true := by kernel_rfl
theorem sc30 : Program.isSc Try.prog 30 = true := by kernel_rfl
theorem sc41 : Program.isSc Try.prog 41 = true := by kernel_rfl
theorem sl41 : Program.slI Try.prog 41 = some 2 := by kernel_rfl
theorem sz5 : (Try.prog.info? 5).map (·.size) = some 1 := by kernel_rfl
end FxStunRB
open FxStunRB
theorem be4_magic : be4 554869826 = magicB := rfl
theorem bad_attr {m : SMsg} {a : PA} (h : a ∈ m.attrs) (hl : 512 < a.2.length) : m.build = none := by
  have : m.good = false := by
    cases hg : m.good with
    | false => rfl
    | true => have := (good_parts hg).1 a h; omega
  simp [SMsg.build, this]
set_option maxHeartbeats 1000000 in
theorem refBuild_bad (c m : Int) (f : Nat → UInt8) (a : Option Addr) (cap : Nat) (l : List At) (hbad : c < 0 ∨ 3 < c ∨ m < 0 ∨ 4095 < m ∨ 16 < l.length) (L : List SA) :
    Fn Try.prog 27 [.agg (msgC c m f (.slice a l.length cap))] (SA.dat (⟨a, cap, l⟩ : Sl At) :: L) (fun v L' => v = .tuple #[.slice none 0 0, vN 1] ∧ L' = SA.dat (⟨a, cap, l⟩ : Sl At) :: L) := by
  refine Fn.of (N := 110) Try.func27 rfl rfl ?_
  intro Xh
  refine TC.seq ?_
  refine TC.region ?_
  refine TL.eff rfl rfl rfl (X.boxA rfl rfl) ?_
  rintro _ _ ⟨b1, rfl, rfl⟩
  refine TL.val rfl rfl rfl (Y.assign rfl rfl) ?_
  refine TL.val rfl rfl rfl (Y.assign rfl rfl) ?_
  refine TL.nil ?_
  refine TQ.next ?_
  refine TC.seq ?_
  refine TC.seq ?_
  refine TC.region ?_
  refine TL.val rfl rfl rfl (by first | exact Y.fieldAddrJ rfl fo43_0 rfl nqq | exact Y.fieldAddr rfl fo43_0 rfl nqq) ?_
  refine TL.val rfl rfl rfl (Y.load rfl sc3 rfl celN) ?_
  refine TL.val rfl rfl rfl (Y.bin rfl rfl rfl (br_ltI (n := 0))) ?_
  refine TL.val rfl rfl rfl (Y.move rfl rfl) ?_
  refine TL.case (fun g1_3 => ?_) (fun g1_3 => ?_)
  · try simp only [decide_eq_true_eq, decide_eq_false_iff_not, Bool.not_eq_true', Bool.not_eq_false', Nat.not_lt, Nat.not_le, beq_iff_eq, bne_iff_ne] at g1_3
    refine TL.not rfl rfl rfl ?_
    refine TL.not rfl rfl rfl ?_
    refine TL.not rfl rfl rfl ?_
    refine TL.val rfl rfl rfl (Y.pick_t rfl rfl rfl) ?_
    refine TL.val rfl rfl rfl (Y.move rfl rfl) ?_
    refine TL.not rfl rfl rfl ?_
    refine TL.not rfl rfl rfl ?_
    refine TL.not rfl rfl rfl ?_
    refine TL.val rfl rfl rfl (Y.pick_t rfl rfl rfl) ?_
    refine TL.val rfl rfl rfl (Y.move rfl rfl) ?_
    refine TL.not rfl rfl rfl ?_
    refine TL.not rfl rfl rfl ?_
    refine TL.not rfl rfl rfl ?_
    refine TL.val rfl rfl rfl (Y.pick_t rfl rfl rfl) ?_
    refine TL.val rfl rfl rfl (Y.move rfl rfl) ?_
    refine TL.not rfl rfl rfl ?_
    refine TL.not rfl rfl rfl ?_
    refine TL.not rfl rfl rfl ?_
    refine TL.not rfl rfl rfl ?_
    refine TL.val rfl rfl rfl (Y.pick_t rfl rfl rfl) ?_
    refine TL.nil ?_
    refine TQ.next ?_
    refine TC.cond_t rfl ?_
    refine TC.seq ?_
    refine TC.region ?_
    refine TL.val rfl rfl rfl (Y.assign rfl rfl) ?_
    refine TL.val rfl rfl rfl (Y.assign rfl rfl) ?_
    refine TL.nil ?_
    refine TQ.next ?_
    refine TC.ret ?_
    refine TQ.then_ret ?_
    refine TQ.retE (res2 rfl rfl rfl) (⟨rfl, rfl⟩) ?_
    exact ett
  · try simp only [decide_eq_true_eq, decide_eq_false_iff_not, Bool.not_eq_true', Bool.not_eq_false', Nat.not_lt, Nat.not_le, beq_iff_eq, bne_iff_ne] at g1_3
    refine TL.valG rfl rfl rfl (by first | exact Y.fieldAddrJ rfl fo43_0 rfl nqq | exact Y.fieldAddr rfl fo43_0 rfl nqq) ?_
    refine TL.valG rfl rfl rfl (Y.load rfl sc3 rfl celN) ?_
    refine TL.valG rfl rfl rfl (Y.bin rfl rfl rfl (br_gtI (n := 3))) ?_
    refine TL.val rfl rfl rfl (Y.pick_f rfl rfl rfl) ?_
    refine TL.val rfl rfl rfl (Y.move rfl rfl) ?_
    refine TL.case (fun g1_8 => ?_) (fun g1_8 => ?_)
    · try simp only [decide_eq_true_eq, decide_eq_false_iff_not, Bool.not_eq_true', Bool.not_eq_false', Nat.not_lt, Nat.not_le, beq_iff_eq, bne_iff_ne] at g1_8
      refine TL.not rfl rfl rfl ?_
      refine TL.not rfl rfl rfl ?_
      refine TL.not rfl rfl rfl ?_
      refine TL.val rfl rfl rfl (Y.pick_t rfl rfl rfl) ?_
      refine TL.val rfl rfl rfl (Y.move rfl rfl) ?_
      refine TL.not rfl rfl rfl ?_
      refine TL.not rfl rfl rfl ?_
      refine TL.not rfl rfl rfl ?_
      refine TL.val rfl rfl rfl (Y.pick_t rfl rfl rfl) ?_
      refine TL.val rfl rfl rfl (Y.move rfl rfl) ?_
      refine TL.not rfl rfl rfl ?_
      refine TL.not rfl rfl rfl ?_
      refine TL.not rfl rfl rfl ?_
      refine TL.not rfl rfl rfl ?_
      refine TL.val rfl rfl rfl (Y.pick_t rfl rfl rfl) ?_
      refine TL.nil ?_
      refine TQ.next ?_
      refine TC.cond_t rfl ?_
      refine TC.seq ?_
      refine TC.region ?_
      refine TL.val rfl rfl rfl (Y.assign rfl rfl) ?_
      refine TL.val rfl rfl rfl (Y.assign rfl rfl) ?_
      refine TL.nil ?_
      refine TQ.next ?_
      refine TC.ret ?_
      refine TQ.then_ret ?_
      refine TQ.retE (res2 rfl rfl rfl) (⟨rfl, rfl⟩) ?_
      exact ett
    · try simp only [decide_eq_true_eq, decide_eq_false_iff_not, Bool.not_eq_true', Bool.not_eq_false', Nat.not_lt, Nat.not_le, beq_iff_eq, bne_iff_ne] at g1_8
      refine TL.valG rfl rfl rfl (by first | exact Y.fieldAddrJ rfl fo43_1 rfl nqq | exact Y.fieldAddr rfl fo43_1 rfl nqq) ?_
      refine TL.valG rfl rfl rfl (Y.load rfl sc3 rfl celN) ?_
      refine TL.valG rfl rfl rfl (Y.bin rfl rfl rfl (br_ltI (n := 0))) ?_
      refine TL.val rfl rfl rfl (Y.pick_f rfl rfl rfl) ?_
      refine TL.val rfl rfl rfl (Y.move rfl rfl) ?_
      refine TL.case (fun g1_13 => ?_) (fun g1_13 => ?_)
      · try simp only [decide_eq_true_eq, decide_eq_false_iff_not, Bool.not_eq_true', Bool.not_eq_false', Nat.not_lt, Nat.not_le, beq_iff_eq, bne_iff_ne] at g1_13
        refine TL.not rfl rfl rfl ?_
        refine TL.not rfl rfl rfl ?_
        refine TL.not rfl rfl rfl ?_
        refine TL.val rfl rfl rfl (Y.pick_t rfl rfl rfl) ?_
        refine TL.val rfl rfl rfl (Y.move rfl rfl) ?_
        refine TL.not rfl rfl rfl ?_
        refine TL.not rfl rfl rfl ?_
        refine TL.not rfl rfl rfl ?_
        refine TL.not rfl rfl rfl ?_
        refine TL.val rfl rfl rfl (Y.pick_t rfl rfl rfl) ?_
        refine TL.nil ?_
        refine TQ.next ?_
        refine TC.cond_t rfl ?_
        refine TC.seq ?_
        refine TC.region ?_
        refine TL.val rfl rfl rfl (Y.assign rfl rfl) ?_
        refine TL.val rfl rfl rfl (Y.assign rfl rfl) ?_
        refine TL.nil ?_
        refine TQ.next ?_
        refine TC.ret ?_
        refine TQ.then_ret ?_
        refine TQ.retE (res2 rfl rfl rfl) (⟨rfl, rfl⟩) ?_
        exact ett
      · try simp only [decide_eq_true_eq, decide_eq_false_iff_not, Bool.not_eq_true', Bool.not_eq_false', Nat.not_lt, Nat.not_le, beq_iff_eq, bne_iff_ne] at g1_13
        refine TL.valG rfl rfl rfl (by first | exact Y.fieldAddrJ rfl fo43_1 rfl nqq | exact Y.fieldAddr rfl fo43_1 rfl nqq) ?_
        refine TL.valG rfl rfl rfl (Y.load rfl sc3 rfl celN) ?_
        refine TL.valG rfl rfl rfl (Y.bin rfl rfl rfl (br_gtI (n := 4095))) ?_
        refine TL.val rfl rfl rfl (Y.pick_f rfl rfl rfl) ?_
        refine TL.val rfl rfl rfl (Y.move rfl rfl) ?_
        refine TL.case (fun g1_18 => ?_) (fun g1_18 => ?_)
        · try simp only [decide_eq_true_eq, decide_eq_false_iff_not, Bool.not_eq_true', Bool.not_eq_false', Nat.not_lt, Nat.not_le, beq_iff_eq, bne_iff_ne] at g1_18
          refine TL.not rfl rfl rfl ?_
          refine TL.not rfl rfl rfl ?_
          refine TL.not rfl rfl rfl ?_
          refine TL.not rfl rfl rfl ?_
          refine TL.val rfl rfl rfl (Y.pick_t rfl rfl rfl) ?_
          refine TL.nil ?_
          refine TQ.next ?_
          refine TC.cond_t rfl ?_
          refine TC.seq ?_
          refine TC.region ?_
          refine TL.val rfl rfl rfl (Y.assign rfl rfl) ?_
          refine TL.val rfl rfl rfl (Y.assign rfl rfl) ?_
          refine TL.nil ?_
          refine TQ.next ?_
          refine TC.ret ?_
          refine TQ.then_ret ?_
          refine TQ.retE (res2 rfl rfl rfl) (⟨rfl, rfl⟩) ?_
          exact ett
        · try simp only [decide_eq_true_eq, decide_eq_false_iff_not, Bool.not_eq_true', Bool.not_eq_false', Nat.not_lt, Nat.not_le, beq_iff_eq, bne_iff_ne] at g1_18
          refine TL.valG rfl rfl rfl (by first | exact Y.fieldAddrJ rfl fo43_3 rfl nqq | exact Y.fieldAddr rfl fo43_3 rfl nqq) ?_
          refine TL.valG rfl rfl rfl (Y.load rfl sc41 rfl celD) ?_
          refine TL.valG rfl rfl rfl (Y.len rfl Try.underlying41 rfl) ?_
          refine TL.valG rfl rfl rfl (Y.bin rfl rfl rfl (br_gtN (n := 16))) ?_
          refine TL.val rfl rfl rfl (Y.pick_f rfl rfl rfl) ?_
          refine TL.nil ?_
          refine TQ.next ?_
          refine TC.cond rfl (fun c0 => ?_) (fun c0 => ?_)
          · try simp only [decide_eq_true_eq, decide_eq_false_iff_not, Bool.not_eq_true', Bool.not_eq_false', Bool.and_eq_true, Bool.or_eq_true, Nat.not_lt, Nat.not_le, beq_iff_eq, bne_iff_ne] at c0
            refine TC.seq ?_
            refine TC.region ?_
            refine TL.val rfl rfl rfl (Y.assign rfl rfl) ?_
            refine TL.val rfl rfl rfl (Y.assign rfl rfl) ?_
            refine TL.nil ?_
            refine TQ.next ?_
            refine TC.ret ?_
            refine TQ.then_ret ?_
            refine TQ.retE (res2 rfl rfl rfl) (⟨rfl, rfl⟩) ?_
            exact ett
          · try simp only [decide_eq_true_eq, decide_eq_false_iff_not, Bool.not_eq_true', Bool.not_eq_false', Bool.and_eq_true, Bool.or_eq_true, Nat.not_lt, Nat.not_le, beq_iff_eq, bne_iff_ne] at c0
            exfalso
            omega --stop
set_option maxHeartbeats 2000000 in
theorem refBuild_good (c m : Nat) (f : Nat → UInt8) (a : Option Addr) (cap : Nat) (l : List At) (hcn : c ≤ 3) (hmn : m ≤ 4095) (hl16 : l.length ≤ 16) (L : List SA) :
    Fn Try.prog 27 [.agg (msgC c m f (.slice a l.length cap))] (SA.dat (⟨a, cap, l⟩ : Sl At) :: L)
      (fun v L' => ∃ b c', v = .tuple #[.slice b (ob (SM c m f ⟨a, cap, l⟩).build).length c', vN (oe (SM c m f ⟨a, cap, l⟩).build)] ∧
        L' = SA.owns 5 1 (.slice b (ob (SM c m f ⟨a, cap, l⟩).build).length c') (ob (SM c m f ⟨a, cap, l⟩).build).length ((ob (SM c m f ⟨a, cap, l⟩).build).map v8) :: SA.dat (⟨a, cap, l⟩ : Sl At) :: L) := by
  have hkl := kindOf_lt c m hcn hmn
  refine Fn.of (N := 110) Try.func27 rfl rfl ?_
  intro Xh
  refine TC.seq ?_
  refine TC.region ?_
  refine TL.eff rfl rfl rfl (X.boxA rfl rfl) ?_
  rintro _ _ ⟨b1, rfl, rfl⟩
  refine TL.val rfl rfl rfl (Y.assign rfl rfl) ?_
  refine TL.val rfl rfl rfl (Y.assign rfl rfl) ?_
  refine TL.nil ?_
  refine TQ.next ?_
  refine TC.seq ?_
  refine TC.seq ?_
  refine TC.region ?_
  refine TL.val rfl rfl rfl (by first | exact Y.fieldAddrJ rfl fo43_0 rfl nqq | exact Y.fieldAddr rfl fo43_0 rfl nqq) ?_
  refine TL.val rfl rfl rfl (Y.load rfl sc3 rfl celN) ?_
  refine TL.val rfl rfl rfl (Y.bin rfl rfl rfl (br_ltN (n := 0))) ?_
  refine TL.is false (by first | rfl | (simp only [decide_eq_true_eq, decide_eq_false_iff_not, Bool.not_eq_true', Bool.not_eq_false', Bool.not_eq_eq_eq_not, Bool.not_true, Bool.not_false, Nat.not_lt, Nat.not_le]; omega) | (simp [*]; done) | (simp; omega)) ?_
  refine TL.val rfl rfl rfl (Y.move rfl rfl) ?_
  refine TL.valG rfl rfl rfl (by first | exact Y.fieldAddrJ rfl fo43_0 rfl nqq | exact Y.fieldAddr rfl fo43_0 rfl nqq) ?_
  refine TL.valG rfl rfl rfl (Y.load rfl sc3 rfl celN) ?_
  refine TL.valG rfl rfl rfl (Y.bin rfl rfl rfl (br_gtN (n := 3))) ?_
  refine TL.is false (by first | rfl | (simp only [decide_eq_true_eq, decide_eq_false_iff_not, Bool.not_eq_true', Bool.not_eq_false', Bool.not_eq_eq_eq_not, Bool.not_true, Bool.not_false, Nat.not_lt, Nat.not_le]; omega) | (simp [*]; done) | (simp; omega)) ?_
  refine TL.val rfl rfl rfl (Y.pick_f rfl rfl rfl) ?_
  refine TL.val rfl rfl rfl (Y.move rfl rfl) ?_
  refine TL.valG rfl rfl rfl (by first | exact Y.fieldAddrJ rfl fo43_1 rfl nqq | exact Y.fieldAddr rfl fo43_1 rfl nqq) ?_
  refine TL.valG rfl rfl rfl (Y.load rfl sc3 rfl celN) ?_
  refine TL.valG rfl rfl rfl (Y.bin rfl rfl rfl (br_ltN (n := 0))) ?_
  refine TL.is false (by first | rfl | (simp only [decide_eq_true_eq, decide_eq_false_iff_not, Bool.not_eq_true', Bool.not_eq_false', Bool.not_eq_eq_eq_not, Bool.not_true, Bool.not_false, Nat.not_lt, Nat.not_le]; omega) | (simp [*]; done) | (simp; omega)) ?_
  refine TL.val rfl rfl rfl (Y.pick_f rfl rfl rfl) ?_
  refine TL.val rfl rfl rfl (Y.move rfl rfl) ?_
  refine TL.valG rfl rfl rfl (by first | exact Y.fieldAddrJ rfl fo43_1 rfl nqq | exact Y.fieldAddr rfl fo43_1 rfl nqq) ?_
  refine TL.valG rfl rfl rfl (Y.load rfl sc3 rfl celN) ?_
  refine TL.valG rfl rfl rfl (Y.bin rfl rfl rfl (br_gtN (n := 4095))) ?_
  refine TL.is false (by first | rfl | (simp only [decide_eq_true_eq, decide_eq_false_iff_not, Bool.not_eq_true', Bool.not_eq_false', Bool.not_eq_eq_eq_not, Bool.not_true, Bool.not_false, Nat.not_lt, Nat.not_le]; omega) | (simp [*]; done) | (simp; omega)) ?_
  refine TL.val rfl rfl rfl (Y.pick_f rfl rfl rfl) ?_
  refine TL.val rfl rfl rfl (Y.move rfl rfl) ?_
  refine TL.valG rfl rfl rfl (by first | exact Y.fieldAddrJ rfl fo43_3 rfl nqq | exact Y.fieldAddr rfl fo43_3 rfl nqq) ?_
  refine TL.valG rfl rfl rfl (Y.load rfl sc41 rfl celD) ?_
  refine TL.valG rfl rfl rfl (Y.len rfl Try.underlying41 rfl) ?_
  refine TL.valG rfl rfl rfl (Y.bin rfl rfl rfl (br_gtN (n := 16))) ?_
  refine TL.is false (by first | rfl | (simp only [decide_eq_true_eq, decide_eq_false_iff_not, Bool.not_eq_true', Bool.not_eq_false', Bool.not_eq_eq_eq_not, Bool.not_true, Bool.not_false, Nat.not_lt, Nat.not_le]; omega) | (simp [*]; done) | (simp; omega)) ?_
  refine TL.val rfl rfl rfl (Y.pick_f rfl rfl rfl) ?_
  refine TL.nil ?_
  refine TQ.next ?_
  refine TC.cond_f rfl ?_
  refine TC.skip ?_
  refine TQ.next ?_
  refine TC.seq ?_
  refine TC.region ?_
  refine TL.val rfl rfl rfl (Y.assign rfl rfl) ?_
  refine TL.nil ?_
  refine TQ.next ?_
  refine TC.seq ?_
  refine TC.seq ?_
  refine TC.region ?_
  refine TL.val rfl rfl rfl (by first | exact Y.fieldAddrJ rfl fo43_3 rfl nqq | exact Y.fieldAddr rfl fo43_3 rfl nqq) ?_
  refine TL.val rfl rfl rfl (Y.load rfl sc41 rfl celD) ?_
  refine TL.val rfl rfl rfl (Y.len rfl Try.underlying41 rfl) ?_
  refine TL.val rfl rfl rfl (Y.move rfl rfl) ?_
  refine TL.nil ?_
  refine TQ.next ?_
  refine TC.block ?_
  refine TC.to (Ent.nilOwn 5 1) ?_
  refine TC.loopF (ι := Nat × Option Addr × Nat) [2, 3] (fun i => i.1 ≤ l.length ∧ ∀ x ∈ (l.map pl).take i.1, x.2.length ≤ 512) (fun i => [(36, some (vN i.1)), (4, some (.slice i.2.1 (bodyFrom [] ((l.map pl).take i.1)).length i.2.2))]) (fun i => [SA.owns 5 1 (.slice i.2.1 (bodyFrom [] ((l.map pl).take i.1)).length i.2.2) (bodyFrom [] ((l.map pl).take i.1)).length ((bodyFrom [] ((l.map pl).take i.1)).map v8)]) (fun i => l.length - i.1) ((0, none, 0)) (⟨by omega, by simp⟩) ⟨rfl, rfl, trivial⟩ (Pulls.cons pul Pulls.nil) ?_
  rintro ⟨k, ba, bc⟩ ⟨hk, h512⟩ F' L' rfl hL'
  simp only [List.cons_append, List.nil_append] at hL'
  subst hL'
  simp only at hk h512 ⊢
  have hbl := bodyFrom_le ((l.map pl).take k) [] h512
  have hbl2 : ((l.map pl).take k).length ≤ 16 := by simp; omega
  generalize hB : bodyFrom [] ((l.map pl).take k) = B at *
  simp only [List.length_nil] at hbl
  refine TC.seq ?_
  refine TC.region ?_
  refine TL.val rfl rfl rfl (Y.bin rfl rfl rfl (br_ltN)) ?_
  refine TL.nil ?_
  refine TQ.next ?_
  refine TC.seq ?_
  refine TC.cond rfl (fun c1 => ?_) (fun c1 => ?_)
  · try simp only [decide_eq_true_eq, decide_eq_false_iff_not, Bool.not_eq_true', Bool.not_eq_false', Bool.and_eq_true, Bool.or_eq_true, Nat.not_lt, Nat.not_le, beq_iff_eq, bne_iff_ne] at c1
    refine TC.skip ?_
    refine TQ.next ?_
    refine TC.seq ?_
    refine TC.block ?_
    refine TC.seq ?_
    obtain ⟨⟨t, a1, ac, bs⟩, hx, hxm⟩ := getS (l := l) (i := k) (by omega)
    refine TC.know (dat_some (a := a) inn (by omega)) ?_
    rintro ⟨g, off, rfl⟩
    have hp := at_pl hx
    refine TC.to ((Pull.ent (A := SA.dat (⟨some ⟨g, off, none⟩, cap, l⟩ : Sl At)) pul).trans ((Ent.elem hxm).trans (Ent.snd.trans Ent.bytesOf))) ?_
    have htl := t.toNat_lt
    refine TC.region ?_
    refine TL.val rfl rfl rfl (Y.move rfl rfl) ?_
    refine TL.val rfl rfl rfl (Y.assign rfl rfl) ?_
    refine TL.nil ?_
    refine TQ.next ?_
    refine TC.seq ?_
    refine TC.region ?_
    refine TL.val rfl rfl rfl (by first | exact Y.fieldAddrJ rfl fo43_3 rfl nqq | exact Y.fieldAddr rfl fo43_3 rfl nqq) ?_
    refine TL.val rfl rfl rfl (Y.load rfl sc41 rfl celD) ?_
    refine TL.val rfl rfl rfl (Y.move rfl rfl) ?_
    refine TL.val rfl rfl rfl (by first | exact Y.indexSlB rfl sl41 rfl rfl (by omega) nqq | exact Y.indexSl rfl sl41 rfl rfl (by omega) nqq) ?_
    refine TL.val rfl rfl rfl (by first | exact Y.fieldAddrJ rfl fo77_1 rfl nqq | exact Y.fieldAddr rfl fo77_1 rfl nqq) ?_
    refine TL.val rfl rfl rfl (Y.load rfl sc30 rfl celD) ?_
    refine TL.as (.slice a1 bs.length ac) (by rfl) ?_
    refine TL.val rfl rfl rfl (Y.assign rfl rfl) ?_
    refine TL.nil ?_
    refine TQ.next ?_
    refine TC.seq ?_
    refine TC.seq ?_
    refine TC.region ?_
    refine TL.val rfl rfl rfl (Y.move rfl rfl) ?_
    refine TL.val rfl rfl rfl (Y.len rfl Try.underlying30 rfl) ?_
    refine TL.val rfl rfl rfl (Y.bin rfl rfl rfl (br_gtN (n := 512))) ?_
    refine TL.nil ?_
    refine TQ.next ?_
    refine TC.cond rfl (fun c2 => ?_) (fun c2 => ?_)
    · try simp only [decide_eq_true_eq, decide_eq_false_iff_not, Bool.not_eq_true', Bool.not_eq_false', Bool.and_eq_true, Bool.or_eq_true, Nat.not_lt, Nat.not_le, beq_iff_eq, bne_iff_ne] at c2
      have hb : (SM c m f ⟨some ⟨g, off, none⟩, cap, l⟩).build = none := bad_attr (a := (t, bs)) (List.mem_of_getElem? hp) (by simpa using c2)
      rw [hb]
      refine TC.to (Ent.nilOwn 5 1) ?_
      refine TC.seq ?_
      refine TC.region ?_
      refine TL.val rfl rfl rfl (Y.assign rfl rfl) ?_
      refine TL.val rfl rfl rfl (Y.assign rfl rfl) ?_
      refine TL.nil ?_
      refine TQ.next ?_
      refine TC.ret ?_
      refine TQ.then_ret ?_
      refine TQ.block_ret ?_
      refine TQ.then_ret ?_
      refine TQ.then_ret ?_
      refine TQ.block_ret ?_
      refine TQ.then_ret ?_
      refine TQ.retE (res2 rfl rfl rfl) (⟨_, _, rfl, rfl⟩) ?_
      exact ett
    · try simp only [decide_eq_true_eq, decide_eq_false_iff_not, Bool.not_eq_true', Bool.not_eq_false', Bool.and_eq_true, Bool.or_eq_true, Nat.not_lt, Nat.not_le, beq_iff_eq, bne_iff_ne] at c2
      refine TC.skip ?_
      refine TQ.next ?_
      refine TC.seq ?_
      refine TC.region ?_
      refine TL.val rfl rfl rfl (Y.move rfl rfl) ?_
      refine TL.val rfl rfl rfl (by first | exact Y.fieldAddrJ rfl fo43_3 rfl nqq | exact Y.fieldAddr rfl fo43_3 rfl nqq) ?_
      refine TL.val rfl rfl rfl (Y.load rfl sc41 rfl celD) ?_
      refine TL.val rfl rfl rfl (Y.move rfl rfl) ?_
      refine TL.val rfl rfl rfl (by first | exact Y.indexSlB rfl sl41 rfl rfl (by omega) nqq | exact Y.indexSl rfl sl41 rfl rfl (by omega) nqq) ?_
      refine TL.val rfl rfl rfl (by first | exact Y.fieldAddrJ rfl fo77_0 rfl nqq | exact Y.fieldAddr rfl fo77_0 rfl nqq) ?_
      refine TL.val rfl rfl rfl (Y.load rfl sc22 rfl cel16) ?_
      refine TL.as (v16 t) (by rfl) ?_
      refine TL.val rfl rfl rfl (Y.conv rfl Try.underlying22 Try.underlying3 rfl (cv_16_N)) ?_
      refine TL.eff rfl rfl rfl (X.call rfl Try.func56 (by kernel_rfl) rfl rfl (Fn.preE (by repeat first | (with_reducible apply Ent.refl) | (apply Ent.cons; case h => first | (with_reducible (repeat first | apply Pull.here | apply Pull.there); done) | (repeat first | apply Pull.here | apply Pull.there))) (r1.Two_fn _ (by omega) _))) ?_
      rintro _ _ ⟨g56, rfl, rfl⟩
      refine TL.val rfl rfl rfl (Y.move rfl rfl) ?_
      refine TL.val rfl rfl rfl (Y.len rfl Try.underlying30 rfl) ?_
      refine TL.eff rfl rfl rfl (X.call rfl Try.func56 (by kernel_rfl) rfl rfl (Fn.preE (by repeat first | (with_reducible apply Ent.refl) | (apply Ent.cons; case h => first | (with_reducible (repeat first | apply Pull.here | apply Pull.there); done) | (repeat first | apply Pull.here | apply Pull.there))) (r1.Two_fn _ (by omega) _))) ?_
      rintro _ _ ⟨g59, rfl, rfl⟩
      refine TL.val rfl rfl rfl (Y.move rfl rfl) ?_
      refine TL.eff rfl rfl rfl (X.lit rfl el119 rfl rfl rfl (by decide) rfl) ?_
      rintro _ _ ⟨g61, rfl, rfl⟩
      refine TL.to Ent.bsNil ?_
      refine TL.to (Ent.bsPullR (a := a1) (cap := ac) pul pul (l := bs) rfl rfl) ?_
      refine TL.to (Ent.bsPull (a := some ⟨g59, 0, none⟩) pul pul (l := be2 bs.length) rfl rfl) ?_
      refine TL.to (Ent.bsPull (a := some ⟨g56, 0, none⟩) pul pul (l := be2 t.toNat) rfl rfl) ?_
      refine TL.to (Ent.bsPull (a := ba) pul pul (l := B) rfl rfl) ?_
      refine TL.to (Ent.mkJoin pul pul rfl rfl) ?_
      refine TL.eff rfl rfl rfl (X.call rfl Try.func55 (by kernel_rfl) rfl rfl (Fn.preE (by repeat first | (with_reducible apply Ent.refl) | (apply Ent.cons; case h => first | (with_reducible (repeat first | apply Pull.here | apply Pull.there); done) | (repeat first | apply Pull.here | apply Pull.there))) (r1.Join_fn _ _ [⟨ba, bc, B⟩, ⟨some ⟨g56, 0, none⟩, 2, be2 t.toNat⟩, ⟨some ⟨g59, 0, none⟩, 2, be2 bs.length⟩, ⟨a1, ac, bs⟩] (by simp [r1.flat, be2_len]; omega) _))) ?_
      rintro _ _ ⟨a62, c62, rfl, rfl⟩
      have hfl : r1.flat [⟨ba, bc, B⟩, ⟨some ⟨g56, 0, none⟩, 2, be2 t.toNat⟩, ⟨some ⟨g59, 0, none⟩, 2, be2 bs.length⟩, ⟨a1, ac, bs⟩] = B ++ attrB (t, bs) := by simp [r1.flat, attrB]
      rw [hfl]
      refine TL.val rfl rfl rfl (Y.assign rfl rfl) ?_
      refine TL.nil ?_
      refine TQ.next ?_
      refine TC.block ?_
      have hpl0 := pad4_length (B ++ attrB (t, bs))
      have hal : (attrB (t, bs)).length = 4 + bs.length := attrB_length (t, bs)
      refine TC.loopF (ι := List UInt8 × Option Addr × Nat) [] (fun i => pad4 i.1 = pad4 (B ++ attrB (t, bs))) (fun i => [(4, some (.slice i.2.1 i.1.length i.2.2))]) (fun i => [SA.owns 5 1 (.slice i.2.1 i.1.length i.2.2) i.1.length (i.1.map v8)]) (fun i => (pad4 (B ++ attrB (t, bs))).length - i.1.length) ((B ++ attrB (t, bs), a62, c62)) (rfl) ⟨rfl, trivial⟩ (Pulls.cons pul Pulls.nil) ?_
      rintro ⟨q, qa, qc⟩ hq F' L' rfl hL'
      simp only [List.cons_append, List.nil_append] at hL'
      subst hL'
      simp only at hq ⊢
      have hpl := pad4_length q
      rw [hq] at hpl
      simp only [List.length_append] at hpl0
      refine TC.seq ?_
      refine TC.seq ?_
      refine TC.region ?_
      refine TL.val rfl rfl rfl (Y.move rfl rfl) ?_
      refine TL.val rfl rfl rfl (Y.len rfl Try.underlying30 rfl) ?_
      refine TL.val rfl rfl rfl (Y.bin rfl rfl rfl (br_remN (n := 4) (by omega))) ?_
      refine TL.val rfl rfl rfl (Y.bin rfl rfl rfl (br_neN (n := 0))) ?_
      refine TL.nil ?_
      refine TQ.next ?_
      refine TC.cond rfl (fun c3 => ?_) (fun c3 => ?_)
      · try simp only [decide_eq_true_eq, decide_eq_false_iff_not, Bool.not_eq_true', Bool.not_eq_false', Bool.and_eq_true, Bool.or_eq_true, Nat.not_lt, Nat.not_le, beq_iff_eq, bne_iff_ne] at c3
        refine TC.skip ?_
        refine TQ.next ?_
        refine TC.block ?_
        refine TC.region ?_
        refine TL.val rfl rfl rfl (Y.move rfl rfl) ?_
        refine TL.eff rfl rfl rfl (X.lit rfl el30 rfl rfl rfl (by decide) rfl) ?_
        rintro _ _ ⟨g68, rfl, rfl⟩
        refine TL.eff rfl rfl rfl (X.appendS rfl el30 rfl pul rfl (by first | exact Src.owns Try.underlying30 inn | exact Src.rds Try.underlying30 inn | exact Src.reads (by assumption) Try.underlying30 inn) (by simp only [maxLen]; omega) (by omega)) ?_
        rintro _ _ ⟨a69, c69, rfl, rfl⟩
        rw [show q.map v8 ++ [.int .u8 0] = (q ++ [(0 : UInt8)]).map v8 by simp, show q.length + 1 = (q ++ [(0 : UInt8)]).length by simp]
        refine TL.val rfl rfl rfl (Y.assign rfl rfl) ?_
        refine TL.nil ?_
        refine TQ.block_normal ?_
        refine TQ.loopF ((q ++ [0], a69, c69)) ((pad4_step q c3).trans hq) (by simp only [List.length_append, List.length_cons, List.length_nil]; omega) ⟨rfl, trivial⟩ (by (repeat first | apply Grow.refl | apply Grow.step | apply Grow.app)) ?_ ?_ ?_
        · kernel_rfl
        · rfl
        · simp only [List.cons_append, List.nil_append]
          exact ett
      · try simp only [decide_eq_true_eq, decide_eq_false_iff_not, Bool.not_eq_true', Bool.not_eq_false', Bool.and_eq_true, Bool.or_eq_true, Nat.not_lt, Nat.not_le, beq_iff_eq, bne_iff_ne] at c3
        refine TC.exit ?_
        refine TQ.then_exit ?_
        refine TQ.then_exit ?_
        refine TQ.block_exit ?_
        refine TQ.block_normal ?_
        refine TQ.next ?_
        obtain rfl : q = bodyFrom [] ((l.map pl).take (k + 1)) := by rw [body_take hp, hB, ← hq, pad4_done q (by omega)]
        refine TC.region ?_
        refine TL.val rfl rfl rfl (Y.bin rfl rfl rfl (br_addN (n := 1) (by omega))) ?_
        refine TL.val rfl rfl rfl (Y.move rfl rfl) ?_
        refine TL.nil ?_
        refine TQ.loopF ((k + 1, qa, qc)) (⟨by simp only; omega, by
  simp only [List.take_add_one, hp]
  intro x hx
  rcases List.mem_append.1 hx with h | h
  · exact h512 x h
  · simp at h; subst h; simpa using c2⟩) (by simp only; omega) ⟨rfl, rfl, trivial⟩ (by (repeat first | apply Grow.refl | apply Grow.step | apply Grow.app)) ?_ ?_ ?_
        · kernel_rfl
        · rfl
        · simp only [List.cons_append, List.nil_append]
          exact ett
  · try simp only [decide_eq_true_eq, decide_eq_false_iff_not, Bool.not_eq_true', Bool.not_eq_false', Bool.and_eq_true, Bool.or_eq_true, Nat.not_lt, Nat.not_le, beq_iff_eq, bne_iff_ne] at c1
    refine TC.exit ?_
    refine TQ.then_exit ?_
    refine TQ.then_exit ?_
    refine TQ.block_exit ?_
    refine TQ.next ?_
    refine TC.seq ?_
    obtain rfl : k = l.length := by omega
    have hall : (l.map pl).take l.length = l.map pl := by rw [← List.length_map (f := pl), List.take_length]
    rw [hall] at hB h512
    have hgood : (SM c m f ⟨a, cap, l⟩).good = true := by
      simp only [SMsg.good, Bool.and_eq_true, decide_eq_true_eq, List.all_eq_true]
      refine ⟨⟨⟨⟨⟨fun x hx => by simpa using h512 x hx, ?_⟩, ?_⟩, ?_⟩, ?_⟩, ?_⟩
      all_goals simp only [SM, List.length_map]
      all_goals omega
    refine TC.region ?_
    refine TL.val rfl rfl rfl (by first | exact Y.fieldAddrJ rfl fo43_1 rfl nqq | exact Y.fieldAddr rfl fo43_1 rfl nqq) ?_
    refine TL.val rfl rfl rfl (Y.load rfl sc3 rfl celN) ?_
    refine TL.val rfl rfl rfl (Y.bin rfl rfl rfl (br_remN (n := 16) (by omega))) ?_
    refine TL.val rfl rfl rfl (by first | exact Y.fieldAddrJ rfl fo43_0 rfl nqq | exact Y.fieldAddr rfl fo43_0 rfl nqq) ?_
    refine TL.val rfl rfl rfl (Y.load rfl sc3 rfl celN) ?_
    refine TL.val rfl rfl rfl (Y.bin rfl rfl rfl (br_remN (n := 2) (by omega))) ?_
    refine TL.val rfl rfl rfl (Y.bin rfl rfl rfl (br_mulN (n := 16) (by omega))) ?_
    refine TL.val rfl rfl rfl (Y.bin rfl rfl rfl (br_addN (by omega))) ?_
    refine TL.val rfl rfl rfl (by first | exact Y.fieldAddrJ rfl fo43_1 rfl nqq | exact Y.fieldAddr rfl fo43_1 rfl nqq) ?_
    refine TL.val rfl rfl rfl (Y.load rfl sc3 rfl celN) ?_
    refine TL.val rfl rfl rfl (Y.bin rfl rfl rfl (br_quoN (n := 16) (by omega) (by omega))) ?_
    refine TL.val rfl rfl rfl (Y.bin rfl rfl rfl (br_remN (n := 8) (by omega))) ?_
    refine TL.val rfl rfl rfl (Y.bin rfl rfl rfl (br_mulN (n := 32) (by omega))) ?_
    refine TL.val rfl rfl rfl (Y.bin rfl rfl rfl (br_addN (by omega))) ?_
    refine TL.val rfl rfl rfl (by first | exact Y.fieldAddrJ rfl fo43_0 rfl nqq | exact Y.fieldAddr rfl fo43_0 rfl nqq) ?_
    refine TL.val rfl rfl rfl (Y.load rfl sc3 rfl celN) ?_
    refine TL.val rfl rfl rfl (Y.bin rfl rfl rfl (br_quoN (n := 2) (by omega) (by omega))) ?_
    refine TL.val rfl rfl rfl (Y.bin rfl rfl rfl (br_mulN (n := 256) (by omega))) ?_
    refine TL.val rfl rfl rfl (Y.bin rfl rfl rfl (br_addN (by omega))) ?_
    refine TL.val rfl rfl rfl (by first | exact Y.fieldAddrJ rfl fo43_1 rfl nqq | exact Y.fieldAddr rfl fo43_1 rfl nqq) ?_
    refine TL.val rfl rfl rfl (Y.load rfl sc3 rfl celN) ?_
    refine TL.val rfl rfl rfl (Y.bin rfl rfl rfl (br_quoN (n := 128) (by omega) (by omega))) ?_
    refine TL.val rfl rfl rfl (Y.bin rfl rfl rfl (br_mulN (n := 512) (by omega))) ?_
    refine TL.val rfl rfl rfl (Y.bin rfl rfl rfl (br_addN (by omega))) ?_
    refine TL.as (vN (kindOf c m)) (by rfl) ?_
    refine TL.val rfl rfl rfl (Y.assign rfl rfl) ?_
    refine TL.nil ?_
    refine TQ.next ?_
    refine TC.seq ?_
    refine TC.draws 10 _ (by kernel_rfl) (by kernel_rfl) (fun _ h => h) ?_
    refine TA.takeP 0 rfl rfl rfl rfl (by kernel_rfl) (by kernel_rfl) (by kernel_rfl) rfl (fun _ _ _ h => h) (Y.move rfl rfl) ?_
    refine TA.takeP 2 rfl rfl rfl rfl (by kernel_rfl) (by kernel_rfl) (by kernel_rfl) rfl (fun _ _ _ h => h) (Y.move rfl rfl) ?_
    refine TA.takeP 3 rfl rfl rfl rfl (by kernel_rfl) (by kernel_rfl) (by kernel_rfl) rfl (fun _ _ _ h => h) (Y.len rfl Try.underlying30 rfl) ?_
    refine TA.takeP 6 rfl rfl rfl rfl (by kernel_rfl) (by kernel_rfl) (by kernel_rfl) rfl (fun _ _ _ h => h) (by first | exact Y.fieldAddrJ rfl fo43_2 rfl nqq | exact Y.fieldAddr rfl fo43_2 rfl nqq) ?_
    refine TA.takeP 7 rfl rfl rfl rfl (by kernel_rfl) (by kernel_rfl) (by kernel_rfl) rfl (fun _ _ _ h => h) (Y.sliceArr rfl Try.underlying40 sz5 rfl) ?_
    refine TA.takeP 8 rfl rfl rfl rfl (by kernel_rfl) (by kernel_rfl) (by kernel_rfl) rfl (fun _ _ _ h => h) (Y.move rfl rfl) ?_
    refine TA.one 1 (by kernel_rfl) rfl rfl rfl rfl (X.call rfl Try.func56 (by kernel_rfl) rfl rfl (Fn.preE (by repeat first | (with_reducible apply Ent.refl) | (apply Ent.cons; case h => first | (with_reducible (repeat first | apply Pull.here | apply Pull.there); done) | (repeat first | apply Pull.here | apply Pull.there))) (r1.Two_fn _ (by omega) _))) ?_
    rintro _ _ ⟨g96, rfl, rfl⟩
    refine ⟨(Or.inr (fun w h A hA => h A (by with_reducible (first | assumption | (repeat first | exact In.there hA | apply In.there))))), ?_⟩
    refine TA.one 4 (by kernel_rfl) rfl rfl rfl rfl (X.call rfl Try.func56 (by kernel_rfl) rfl rfl (Fn.preE (by repeat first | (with_reducible apply Ent.refl) | (apply Ent.cons; case h => first | (with_reducible (repeat first | apply Pull.here | apply Pull.there); done) | (repeat first | apply Pull.here | apply Pull.there))) (r1.Two_fn _ (by omega) _))) ?_
    rintro _ _ ⟨g99, rfl, rfl⟩
    refine ⟨(Or.inr (fun w h A hA => h A (by with_reducible (first | assumption | (repeat first | exact In.there hA | apply In.there))))), ?_⟩
    refine TA.one 5 (by kernel_rfl) rfl rfl rfl rfl (X.call rfl Try.func54 (by kernel_rfl) rfl rfl (Fn.preE (by repeat first | (with_reducible apply Ent.refl) | (apply Ent.cons; case h => first | (with_reducible (repeat first | apply Pull.here | apply Pull.there); done) | (repeat first | apply Pull.here | apply Pull.there))) (r1.Four_fn 554869826 _))) ?_
    rintro _ _ ⟨g100, rfl, rfl⟩
    refine ⟨(Or.inr (fun w h A hA => h A (by with_reducible (first | assumption | (repeat first | exact In.there hA | apply In.there))))), ?_⟩
    refine TA.one 9 (by kernel_rfl) rfl rfl rfl rfl (X.lit rfl el119 rfl rfl rfl (by decide) rfl) ?_
    rintro _ _ ⟨g104, rfl, rfl⟩
    refine ⟨(Or.inr (fun w h A hA => h A (by with_reducible (first | assumption | (repeat first | exact In.there hA | apply In.there))))), ?_⟩
    refine TA.to Ent.bsNil ?_
    refine TA.to (Ent.bsPull (a := ba) pul pul (l := B) rfl rfl) ?_
    refine TA.to (Ent.rdOfBlk (b := b1) pul readsId rfl) ?_
    refine TA.to (Ent.bsPullR (a := some ⟨b1, 2, none⟩) pul pul (l := idL f) rfl rfl) ?_
    refine TA.to (Ent.bsPull (a := some ⟨g100, 0, none⟩) pul pul (l := magicB) rfl rfl) ?_
    refine TA.to (Ent.bsPull (a := some ⟨g99, 0, none⟩) pul pul (l := be2 B.length) rfl rfl) ?_
    refine TA.to (Ent.bsPull (a := some ⟨g96, 0, none⟩) pul pul (l := be2 (kindOf c m)) rfl rfl) ?_
    refine TA.to (Ent.mkJoin pul pul rfl rfl) ?_
    have hwh : r1.flat [⟨some ⟨g96, 0, none⟩, 2, be2 (kindOf c m)⟩, ⟨some ⟨g99, 0, none⟩, 2, be2 B.length⟩, ⟨some ⟨g100, 0, none⟩, 4, magicB⟩, ⟨some ⟨b1, 2, none⟩, 12, idL f⟩, ⟨ba, bc, B⟩] = (SM c m f ⟨a, cap, l⟩).whole := by
      simp [r1.flat, SMsg.whole, SM, hB]
    have hwl : (SM c m f ⟨a, cap, l⟩).whole.length = 20 + B.length := by rw [← hwh]; simp [r1.flat, be2, be4, magicB, idL]; omega
    refine TA.one 10 (by kernel_rfl) rfl rfl rfl rfl (X.call rfl Try.func55 (by kernel_rfl) rfl rfl (Fn.preE (by repeat first | (with_reducible apply Ent.refl) | (apply Ent.cons; case h => first | (with_reducible (repeat first | apply Pull.here | apply Pull.there); done) | (repeat first | apply Pull.here | apply Pull.there))) (r1.Join_fn _ _ [⟨some ⟨g96, 0, none⟩, 2, be2 (kindOf c m)⟩, ⟨some ⟨g99, 0, none⟩, 2, be2 B.length⟩, ⟨some ⟨g100, 0, none⟩, 4, magicB⟩, ⟨some ⟨b1, 2, none⟩, 12, idL f⟩, ⟨ba, bc, B⟩] (by rw [hwh, hwl]; omega) _))) ?_
    rintro _ _ ⟨a105, c105, rfl, rfl⟩
    rw [hwh]
    refine ⟨(Or.inl (by kernel_rfl)), ?_⟩
    refine TA.takeP 11 rfl rfl rfl rfl (by kernel_rfl) (by kernel_rfl) (by kernel_rfl) rfl (fun _ _ _ h => h) (Y.assign rfl rfl) ?_
    refine TA.done (by kernel_rfl) ?_
    refine TQ.next ?_
    refine TC.seq ?_
    refine TC.seq ?_
    refine TC.region ?_
    refine TL.val rfl rfl rfl (Y.move rfl rfl) ?_
    refine TL.val rfl rfl rfl (Y.len rfl Try.underlying30 rfl) ?_
    refine TL.val rfl rfl rfl (Y.bin rfl rfl rfl (br_gtN (n := 1500))) ?_
    refine TL.nil ?_
    refine TQ.next ?_
    refine TC.cond rfl (fun c4 => ?_) (fun c4 => ?_)
    · try simp only [decide_eq_true_eq, decide_eq_false_iff_not, Bool.not_eq_true', Bool.not_eq_false', Bool.and_eq_true, Bool.or_eq_true, Nat.not_lt, Nat.not_le, beq_iff_eq, bne_iff_ne] at c4
      have hb : (SM c m f ⟨a, cap, l⟩).build = none := by simp [SMsg.build]; intro _; omega
      rw [hb]
      refine TC.to (Ent.nilOwn 5 1) ?_
      refine TC.seq ?_
      refine TC.region ?_
      refine TL.val rfl rfl rfl (Y.assign rfl rfl) ?_
      refine TL.val rfl rfl rfl (Y.assign rfl rfl) ?_
      refine TL.nil ?_
      refine TQ.next ?_
      refine TC.ret ?_
      refine TQ.then_ret ?_
      refine TQ.retE (res2 rfl rfl rfl) (⟨_, _, rfl, rfl⟩) ?_
      exact ett
    · try simp only [decide_eq_true_eq, decide_eq_false_iff_not, Bool.not_eq_true', Bool.not_eq_false', Bool.and_eq_true, Bool.or_eq_true, Nat.not_lt, Nat.not_le, beq_iff_eq, bne_iff_ne] at c4
      have hb : (SM c m f ⟨a, cap, l⟩).build = some (SM c m f ⟨a, cap, l⟩).whole := by rw [SMsg.build, if_pos ⟨hgood, by omega⟩]
      rw [hb]
      refine TC.skip ?_
      refine TQ.next ?_
      refine TC.seq ?_
      refine TC.region ?_
      refine TL.val rfl rfl rfl (Y.move rfl rfl) ?_
      refine TL.val rfl rfl rfl (Y.assign rfl rfl) ?_
      refine TL.val rfl rfl rfl (Y.assign rfl rfl) ?_
      refine TL.nil ?_
      refine TQ.next ?_
      refine TC.ret ?_
      refine TQ.retE (res2 rfl rfl rfl) (⟨_, _, rfl, rfl⟩) ?_
      exact ett
theorem refBuild_fn (c m : Int) (f : Nat → UInt8) (a : Option Addr) (cap : Nat) (l : List At) (L : List SA) :
    Fn Try.prog 27 [.agg (msgC c m f (.slice a l.length cap))] (SA.dat (⟨a, cap, l⟩ : Sl At) :: L)
      (fun v L' => ∃ b c', v = .tuple #[.slice b (ob (SM c m f ⟨a, cap, l⟩).build).length c', vN (oe (SM c m f ⟨a, cap, l⟩).build)] ∧
        L' = SA.owns 5 1 (.slice b (ob (SM c m f ⟨a, cap, l⟩).build).length c') (ob (SM c m f ⟨a, cap, l⟩).build).length ((ob (SM c m f ⟨a, cap, l⟩).build).map v8) :: SA.dat (⟨a, cap, l⟩ : Sl At) :: L) := by
  by_cases hbad : c < 0 ∨ 3 < c ∨ m < 0 ∨ 4095 < m ∨ 16 < l.length
  · have hb : (SM c m f ⟨a, cap, l⟩).build = none := by
      simp [SMsg.build, not_good (SM c m f ⟨a, cap, l⟩) (by rw [show (SM c m f ⟨a, cap, l⟩).attrs = l.map pl from rfl, List.length_map]; exact hbad)]
    rw [hb]
    exact (refBuild_bad c m f a cap l hbad L).mono fun v L' ⟨h1, h2⟩ => ⟨_, Ent.nilOwn 5 1, none, 0, h1, by rw [h2]; rfl⟩
  · obtain ⟨cn, rfl⟩ : ∃ n : Nat, c = n := ⟨c.toNat, by omega⟩
    obtain ⟨mn, rfl⟩ : ∃ n : Nat, m = n := ⟨m.toNat, by omega⟩
    exact refBuild_good cn mn f a cap l (by omega) (by omega) (by omega) L
end stun
end Go.Proofs.Ytpmplnkempcmjaa

/- theirs and ours: a message in the other package's types. -/
namespace Go.Proofs.Ytpmplnkempcmjaa
set_option linter.unusedVariables false
set_option linter.unusedSimpArgs false
open Go.RowKit
namespace stun
--FACTS
theorem map_take_s {α β : Type} {f : α → β} {l : List α} {k : Nat} {x : α} (h : l[k]? = some x) : (l.map f).take (k + 1) = (l.map f).take k ++ [f x] := by
  rw [List.take_add_one, List.getElem?_map, h]; rfl
theorem msgC_size (c m : Int) (f : Nat → UInt8) (s : Value) : (msgC c m f s).size = 15 := rfl
theorem msg_one (c m : Int) (f : Nat → UInt8) (a : Option Addr) (n cap : Nat) : ∀ v ∈ (msgC c m f (.slice a n cap)).toList, v.oneCell' = true := by
  intro v hv
  simp only [msgC, List.toList_toArray, List.mem_cons, List.not_mem_nil, or_false] at hv
  rcases hv with rfl | rfl | rfl | rfl | rfl | rfl | rfl | rfl | rfl | rfl | rfl | rfl | rfl | rfl | rfl <;> rfl
theorem Ent.addEl {α : Type} [Dat α] {x : α} {ys : List α} {L L1 L2 : List SA} (h1 : Pull (SA.rdss (ys.flatMap Dat.g)) L L1) (h2 : Pull (SA.dat x) L1 L2) : Ent L (SA.rdss ((ys ++ [x]).flatMap Dat.g) :: L2) := by
  rw [List.flatMap_append, List.flatMap_singleton]
  exact h1.ent.trans ((h2.ent.under _).trans Ent.rdssApp)
theorem Ent.mkOwn {α : Type} [Dat α] {e sz n cap : Nat} {a : Option Addr} {l : List α} {cells : List Value} {L L1 L2 : List SA} (h1 : Pull (SA.owns e sz (.slice a n cap) n cells) L L1) (h2 : Pull (SA.rdss (l.flatMap Dat.g)) L1 L2) (hn : l.length = n) (hs : Dat.sz α = sz) (hc : Dat.cs l = cells) : Ent L (SA.dat (⟨a, cap, l⟩ : Sl α) :: L2) :=
  h1.ent.trans ((h2.ent.under _).trans (Ent.freeze.trans (Ent.mkSl hn hs hc)))
theorem Ent.mkAt {t : UInt16} {e n cap : Nat} {a : Option Addr} {bs : List UInt8} {L L1 : List SA} (h1 : Pull (SA.owns e 1 (.slice a n cap) n (bs.map v8)) L L1) (hn : bs.length = n) : Ent L (SA.dat ((t, ⟨a, cap, bs⟩) : At) :: L1) :=
  h1.ent.trans (Ent.freeze.trans (Ent.mkBytes hn))
theorem Ent.atBytes {l : List At} {t : UInt16} {a a1 : Option Addr} {cap ac : Nat} {bs : List UInt8} {L L1 : List SA} (hp : Pull (SA.dat (⟨a, cap, l⟩ : Sl At)) L L1) (hx : (t, (⟨a1, ac, bs⟩ : Bs)) ∈ l) :
    Ent L (SA.rds 1 (.slice a1 bs.length ac) bs.length (bs.map v8) :: SA.dat (⟨a, cap, l⟩ : Sl At) :: L1) := hp.ent.trans ((Ent.elem hx).trans ((Ent.bytesOf (s := ⟨a1, ac, bs⟩)).trans (Ent.under _ Ent.drop)))
end stun
end Go.Proofs.Ytpmplnkempcmjaa

/- STUN: a message's bytes have one message alone; reading them step by step. Plain lists. -/
namespace Go.Proofs.Ytpmplnkempcmjaa
set_option linter.unusedVariables false
set_option linter.unusedSimpArgs false
open Go.RowKit
namespace stun
open wr (pad4 pad4_length pad4_mod pad4_head pad4_step pad4_done be16 be32)
open r1 (be2 be4 be2_len be4_len)
open rd (rdB rdL rdV num num1)
def encA (a : PA) : List UInt8 := pad4 (attrB a)
def enc (xs : List PA) : List UInt8 := xs.flatMap encA
theorem encA_mod (a : PA) : (encA a).length % 4 = 0 := pad4_mod _
theorem enc_mod (xs : List PA) : (enc xs).length % 4 = 0 := by
  induction xs with
  | nil => rfl
  | cons x r ih => rw [enc, List.flatMap_cons, List.length_append]; have := encA_mod x; rw [enc] at ih; omega
theorem body_enc (xs : List PA) : ∀ b : List UInt8, b.length % 4 = 0 → bodyFrom b xs = b ++ enc xs := by
  induction xs with
  | nil => intro b _; simp [bodyFrom, enc]
  | cons x r ih =>
    intro b hb
    show bodyFrom (pad4 (b ++ attrB x)) r = b ++ enc (x :: r)
    rw [ih _ (pad4_mod _), pad4_head _ _ hb, enc, enc, List.flatMap_cons, List.append_assoc]; rfl
theorem body_enc0 (xs : List PA) : bodyFrom [] xs = enc xs := body_enc xs [] rfl
/-- the bytes of an attribute, piece by piece -/
def padN (n : Nat) : Nat := (4 - n % 4) % 4
theorem encA_eq (a : PA) : encA a = be2 a.1.toNat ++ be2 a.2.length ++ a.2 ++ List.replicate (padN a.2.length) 0 := by
  unfold encA pad4
  rw [attrB_length, show (4 - (4 + a.2.length) % 4) % 4 = padN a.2.length by unfold padN; omega, attrB]
theorem encA_pos (a : PA) : 4 ≤ (encA a).length := by rw [encA_eq]; simp [be2]
theorem enc_cons (x : PA) (xs : List PA) : enc (x :: xs) = encA x ++ enc xs := by simp [enc]
theorem enc_app (xs ys : List PA) : enc (xs ++ ys) = enc xs ++ enc ys := by simp [enc]
theorem be2_inj {m n : Nat} (hm : m < 65536) (hn : n < 65536) (h : be2 m = be2 n) : m = n := by
  simp only [be2, List.cons.injEq, and_true] at h
  have h1 := congrArg UInt8.toNat h.1
  have h2 := congrArg UInt8.toNat h.2
  rw [UInt8.toNat_ofNat', UInt8.toNat_ofNat'] at h1 h2
  omega
def small (xs : List PA) : Prop := ∀ a ∈ xs, a.2.length < 65536
theorem app4 {α : Type} {a b a' b' : List α} (h : a ++ b = a' ++ b') (hl : a.length = a'.length) : a = a' ∧ b = b' := List.append_inj h hl
theorem encA_inj {x y : PA} {l m : List UInt8} (hx : x.2.length < 65536) (hy : y.2.length < 65536) (h : encA x ++ l = encA y ++ m) : x = y ∧ l = m := by
  rw [encA_eq, encA_eq] at h
  simp only [List.append_assoc] at h
  obtain ⟨h1, h⟩ := app4 h rfl
  obtain ⟨h2, h⟩ := app4 h rfl
  have e2 := be2_inj hx hy h2
  obtain ⟨h3, h⟩ := app4 h e2
  rw [e2] at h
  obtain ⟨-, h4⟩ := app4 h rfl
  have e1 := be2_inj x.1.toNat_lt y.1.toNat_lt h1
  exact ⟨Prod.ext (UInt16.toNat_inj.1 e1) h3, h4⟩
theorem enc_cancel : ∀ (ys xs : List PA) (l : List UInt8), small xs → small ys → enc xs = enc ys ++ l → ∃ zs, xs = ys ++ zs ∧ l = enc zs
  | [], xs, l, _, _, h => ⟨xs, rfl, by simpa [enc] using h.symm⟩
  | y :: ys, [], l, _, _, h => by
    have := congrArg List.length h
    have hp := encA_pos y
    simp [enc] at this
    omega
  | y :: ys, x :: xs, l, hx, hy, h => by
    rw [enc_cons, enc_cons, List.append_assoc] at h
    obtain ⟨he, h2⟩ := encA_inj (hx x (by simp)) (hy y (by simp)) h
    subst he
    obtain ⟨zs, rfl, e⟩ := enc_cancel ys xs l (fun a ha => hx a (by simp [ha])) (fun a ha => hy a (by simp [ha])) h2
    exact ⟨zs, rfl, e⟩
theorem enc_inj {xs ys : List PA} (hx : small xs) (hy : small ys) (h : enc xs = enc ys) : xs = ys := by
  obtain ⟨zs, e, h0⟩ := enc_cancel ys xs [] hx hy (by simpa using h)
  cases zs with
  | nil => simpa using e
  | cons z r =>
    have := congrArg List.length h0
    have hp := encA_pos z
    rw [enc_cons] at this
    simp at this
    omega
theorem build_iff (m : SMsg) (b : List UInt8) : m.build = some b ↔ m.good = true ∧ b.length ≤ 1500 ∧ b = be2 (kindOf m.cls.toNat m.mth.toNat) ++ be2 (enc m.attrs).length ++ magicB ++ m.id ++ enc m.attrs := by
  unfold SMsg.build
  have hw : m.whole = be2 (kindOf m.cls.toNat m.mth.toNat) ++ be2 (enc m.attrs).length ++ magicB ++ m.id ++ enc m.attrs := by rw [SMsg.whole, body_enc0]
  rw [← hw]
  constructor
  · intro h
    split at h
    · rename_i hc
      cases h
      exact ⟨hc.1, hc.2, rfl⟩
    · cases h
  · rintro ⟨h1, h2, rfl⟩
    rw [if_pos ⟨h1, h2⟩]
/-! ### the kind, taken apart -/
def clsR (k : Nat) : Nat := k / 16 &&& 1 ||| (k / 256 &&& 1) * 2
def mthR (k : Nat) : Nat := k &&& 15 ||| (k / 32 &&& 7) * 16 ||| (k / 512 &&& 31) * 128
def clsP (k : Nat) : Nat := k / 16 &&& 1 ||| k / 128 &&& 2
def mthP (k : Nat) : Nat := k &&& 15 ||| k / 2 &&& 112 ||| k / 4 &&& 3968
theorem kind_back : ∀ c : Fin 4, ∀ x : Fin 64, ∀ y : Fin 64, let k := kindOf c.val (x.val * 64 + y.val); clsR k = c.val ∧ mthR k = x.val * 64 + y.val ∧ clsP k = c.val ∧ mthP k = x.val * 64 + y.val ∧ k < 16384 := by decide +kernel
theorem kind_of (c m : Nat) (h1 : c ≤ 3) (h3 : m ≤ 4095) : clsR (kindOf c m) = c ∧ mthR (kindOf c m) = m ∧ clsP (kindOf c m) = c ∧ mthP (kindOf c m) = m ∧ kindOf c m < 16384 := by
  have := kind_back ⟨c, by omega⟩ ⟨m / 64, by omega⟩ ⟨m % 64, by omega⟩
  simp only at this
  rwa [show m / 64 * 64 + m % 64 = m by omega] at this
theorem kind_fwd : ∀ x : Fin 128, ∀ y : Fin 128, let k := x.val * 128 + y.val; clsP k ≤ 3 ∧ mthP k ≤ 4095 ∧ kindOf (clsP k) (mthP k) = k := by decide +kernel
theorem kind_to (k : Nat) (h : k < 16384) : clsP k ≤ 3 ∧ mthP k ≤ 4095 ∧ kindOf (clsP k) (mthP k) = k := by
  have := kind_fwd ⟨k / 128, by omega⟩ ⟨k % 128, by omega⟩
  simp only at this
  rwa [show k / 128 * 128 + k % 128 = k by omega] at this
/-! ### bytes as numbers -/
theorem or_add (x y : Nat) (h : y < 256) : x * 256 ||| y = x * 256 + y := by
  have := Nat.two_pow_add_eq_or_of_lt (i := 8) h x
  rw [Nat.mul_comm x 256, this]
theorem num2 (x y : UInt8) : (num [x, y]).toUInt16.toNat = x.toNat * 256 + y.toNat := by
  have hx := x.toNat_lt; have hy := y.toNat_lt
  have e : num [x, y] = UInt32.ofNat (x.toNat * 256 + y.toNat) := by
    apply UInt32.toNat_inj.1
    rw [UInt32.toNat_ofNat_of_lt' (by show _ < 4294967296; omega)]
    simp only [num, List.foldl_cons, List.foldl_nil, num1, shl32]
    simp
    rw [show x.toNat * 256 % 4294967296 = x.toNat * 256 by omega, or_add _ _ (by omega)]
  rw [e]
  simp
  omega
theorem be2_num2 (x y : UInt8) : be2 (x.toNat * 256 + y.toNat) = [x, y] := by
  have hx := x.toNat_lt; have hy := y.toNat_lt
  simp only [be2]
  rw [show (x.toNat * 256 + y.toNat) / 256 = x.toNat by omega]
  congr 1
  · simp
  · congr 1
    apply UInt8.toNat_inj.1
    rw [UInt8.toNat_ofNat']
    omega
/-! ### the reader's steps -/
theorem rdB_ok {k : Nat} {l : List UInt8} (h : k ≤ l.length) : rdB k l false = false := by simp [rdB]; omega
theorem rdL_ok {k : Nat} {l : List UInt8} (h : k ≤ l.length) : rdL k l false = l.drop k := by simp [rdL, rdB_ok h]
theorem rdV_ok {k : Nat} {l : List UInt8} (h : k ≤ l.length) : rdV k l false = l.take k := by simp [rdV, rdB_ok h]
theorem rdB_no {k : Nat} {l : List UInt8} (h : l.length < k) : rdB k l false = true := by simp [rdB]; omega
theorem rdB_t {k : Nat} {l : List UInt8} : rdB k l true = true := rfl
theorem rdB_eq {k : Nat} {l : List UInt8} {b : Bool} (h : rdB k l b = false) : b = false ∧ k ≤ l.length := by simpa [rdB] using h
theorem rd_app {k : Nat} {l : List UInt8} {b : Bool} (h : rdB k l b = false) : l = rdV k l b ++ rdL k l b ∧ (rdV k l b).length = k := by
  obtain ⟨rfl, hk⟩ := rdB_eq h
  rw [rdV_ok hk, rdL_ok hk, List.take_append_drop, List.length_take]
  exact ⟨rfl, by omega⟩
/-- one attribute read: type, length, value, padding; what is left; whether it went well -/
structure AtR where
  t : UInt16
  k : Nat
  v : List UInt8
  w : List UInt8
  l : List UInt8
  bad : Bool
def atRead (l : List UInt8) : AtR :=
  let t := (num (rdV 2 l false)).toUInt16
  let l1 := rdL 2 l false
  let b1 := rdB 2 l false
  let k := (num (rdV 2 l1 b1)).toUInt16.toNat
  let l2 := rdL 2 l1 b1
  let b2 := rdB 2 l1 b1
  let l3 := rdL k l2 b2
  let b3 := rdB k l2 b2
  ⟨t, k, rdV k l2 b2, rdV (padN k) l3 b3, rdL (padN k) l3 b3, rdB (padN k) l3 b3⟩
theorem two_take {l : List UInt8} (h : l.length = 2) : ∃ x y, l = [x, y] := by
  match l, h with
  | [x, y], _ => exact ⟨x, y, rfl⟩
theorem be2_num {l : List UInt8} (h : l.length = 2) : be2 (num l).toUInt16.toNat = l := by
  obtain ⟨x, y, rfl⟩ := two_take h
  rw [num2, be2_num2]
theorem atRead_ok (l : List UInt8) (h : (atRead l).bad = false) : l = be2 (atRead l).t.toNat ++ be2 (atRead l).k ++ (atRead l).v ++ (atRead l).w ++ (atRead l).l ∧ (atRead l).v.length = (atRead l).k ∧ (atRead l).w.length = padN (atRead l).k ∧ (atRead l).k < 65536 := by
  unfold atRead at h ⊢
  simp only at h ⊢
  obtain ⟨e4, n4⟩ := rd_app h
  have h3 := (rdB_eq h).1
  obtain ⟨e3, n3⟩ := rd_app h3
  have h2 := (rdB_eq h3).1
  obtain ⟨e2, n2⟩ := rd_app h2
  have h1 := (rdB_eq h2).1
  obtain ⟨e1, n1⟩ := rd_app h1
  refine ⟨?_, n3, n4, UInt16.toNat_lt _⟩
  rw [be2_num n1, be2_num n2]
  rw [List.append_assoc, List.append_assoc, List.append_assoc, ← e4, ← e3, ← e2, ← e1]
theorem atRead_enc (x : PA) (xs : List PA) (hx : x.2.length < 65536) : atRead (enc (x :: xs)) = ⟨x.1, x.2.length, x.2, List.replicate (padN x.2.length) 0, enc xs, false⟩ := by
  obtain ⟨t, v⟩ := x
  have ht := t.toNat_lt
  have num_be : ∀ n, n < 65536 → (num (be2 n)).toUInt16.toNat = n := fun n hn => be2_inj (UInt16.toNat_lt _) hn (be2_num (be2_len n))
  have e : enc ((t, v) :: xs) = be2 t.toNat ++ (be2 v.length ++ (v ++ (List.replicate (padN v.length) 0 ++ enc xs))) := by rw [enc_cons, encA_eq]; simp only [List.append_assoc]
  have take_l : ∀ (a b : List UInt8) (n : Nat), a.length = n → rdV n (a ++ b) false = a ∧ rdL n (a ++ b) false = b ∧ rdB n (a ++ b) false = false := fun a b n hn => by
    have : n ≤ (a ++ b).length := by simp; omega
    subst hn
    exact ⟨by rw [rdV_ok this]; simp, by rw [rdL_ok this]; simp, rdB_ok this⟩
  unfold atRead
  rw [e]
  obtain ⟨a1, a2, a3⟩ := take_l (be2 t.toNat) (be2 v.length ++ (v ++ (List.replicate (padN v.length) 0 ++ enc xs))) 2 rfl
  simp only [a1, a2, a3]
  obtain ⟨a1, a2, a3⟩ := take_l (be2 v.length) (v ++ (List.replicate (padN v.length) 0 ++ enc xs)) 2 rfl
  simp only [a1, a2, a3, num_be _ hx]
  obtain ⟨a1, a2, a3⟩ := take_l v (List.replicate (padN v.length) 0 ++ enc xs) v.length rfl
  simp only [a1, a2, a3]
  obtain ⟨a1, a2, a3⟩ := take_l (List.replicate (padN v.length) 0) (enc xs) (padN v.length) (by simp)
  simp only [a1, a2, a3]
  have : (num (be2 t.toNat)).toUInt16 = t := UInt16.toNat_inj.1 (num_be _ ht)
  rw [this]
/-- the step of the reading loop: what is left can be written, or not -/
theorem atRead_step (l : List UInt8) (h : (atRead l).bad = false) (hz : ∀ x ∈ (atRead l).w, x = 0) : l = encA ((atRead l).t, (atRead l).v) ++ (atRead l).l := by
  obtain ⟨e, n1, n2, n3⟩ := atRead_ok l h
  have hw : (atRead l).w = List.replicate (padN (atRead l).k) 0 := List.eq_replicate_iff.2 ⟨n2, hz⟩
  rw [hw, ← n1] at e
  rw [encA_eq]
  exact e
theorem atRead_no (l : List UInt8) (hl : l ≠ []) (h : (atRead l).bad = true ∨ ∃ x ∈ (atRead l).w, x ≠ 0) : ∀ xs, small xs → l ≠ enc xs := by
  rintro xs hs rfl
  cases xs with
  | nil => exact hl rfl
  | cons x xs =>
    rw [atRead_enc x xs (hs x (by simp))] at h
    rcases h with h | ⟨y, hy, h0⟩
    · cases h
    · exact h0 (List.eq_of_mem_replicate hy)
end stun
end Go.Proofs.Ytpmplnkempcmjaa
