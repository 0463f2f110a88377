/- The logic and the walks, in one text with others: part 2 of 6. -/
import Derived.Laws.Cover3
import Derived.Laws.Pointers
import Derived.Laws.StructEq
import Derived.Lib.ConvBytes
import Derived.WalkMore
import Derived.AtR
import Derived.MapKept
import Derived.Test.YtomplpdeeomehaaChecked
import Derived.Test.YtomplpdeeomehaaPk1
/- Data that is read: lists of structs, slices in slices. No program is named. -/
namespace Go.Proofs.Ytomplpdeeomehaa
set_option linter.unusedVariables false
set_option linter.unusedSimpArgs false
open Go.ChangeShapes Go.WideShapes Go.ChangeAt Go.RowKit

/-- a slice that is read -/
structure G where
  sz : Nat
  v : Value
  n : Nat
  cells : List Value
/-- data with cells, and with slices that hang from them -/
class Dat (α : Type) where
  sz : Nat
  c : α → List Value
  cs : List α → List Value
  g : α → List G
  dflt : α
  cs_eq : ∀ l, cs l = l.flatMap c
  len : ∀ x, (c x).length = sz
  one : ∀ x, ∀ v ∈ c x, v.oneCell' = true
  pos : 0 < sz
theorem map_flat {α : Type} (f : α → Value) (l : List α) : l.map f = l.flatMap fun x => [f x] := by
  induction l with
  | nil => rfl
  | cons x r ih => simp [ih]
abbrev Dat.scalar {α : Type} (f : α → Value) (d : α) (h1 : ∀ x, (f x).oneCell' = true) : Dat α where
  sz := 1
  c x := [f x]
  cs l := l.map f
  g _ := []
  dflt := d
  cs_eq l := map_flat f l
  len _ := rfl
  one x v hv := by simp at hv; subst hv; exact h1 x
  pos := Nat.one_pos
abbrev vI (n : Int) : Value := .int .i64 n
abbrev vB (b : Bool) : Value := .bool b
abbrev vS (s : ByteArray) : Value := .string s
instance : Dat UInt8 := Dat.scalar v8 0 fun _ => rfl
instance : Dat UInt16 := Dat.scalar v16 0 fun _ => rfl
instance : Dat UInt32 := Dat.scalar v32 0 fun _ => rfl
instance : Dat UInt64 := Dat.scalar v64 0 fun _ => rfl
instance : Dat Int := Dat.scalar vI 0 fun _ => rfl
instance : Dat Nat := Dat.scalar vN 0 fun _ => rfl
instance : Dat Bool := Dat.scalar vB false fun _ => rfl
instance : Dat ByteArray := Dat.scalar vS .empty fun _ => rfl
/-- a slice and what it holds -/
structure Sl (α : Type) where
  a : Option Addr
  cap : Nat
  l : List α
abbrev Sl.v {α : Type} (s : Sl α) : Value := .slice s.a s.l.length s.cap
instance {α : Type} [Dat α] : Dat (Sl α) where
  sz := 1
  c s := [s.v]
  cs l := l.map Sl.v
  g s := ⟨Dat.sz α, s.v, s.l.length, Dat.cs s.l⟩ :: s.l.flatMap Dat.g
  dflt := ⟨none, 0, []⟩
  cs_eq l := map_flat _ l
  len _ := rfl
  one x v hv := by simp at hv; subst hv; rfl
  pos := Nat.one_pos
instance {α β : Type} [Dat α] [Dat β] : Dat (α × β) where
  sz := Dat.sz α + Dat.sz β
  c x := Dat.c x.1 ++ Dat.c x.2
  cs l := l.flatMap fun x => Dat.c x.1 ++ Dat.c x.2
  g x := Dat.g x.1 ++ Dat.g x.2
  dflt := (Dat.dflt, Dat.dflt)
  cs_eq _ := rfl
  len x := by simp [Dat.len]
  one x v hv := by
    rcases List.mem_append.1 hv with h | h
    · exact Dat.one _ _ h
    · exact Dat.one _ _ h
  pos := Nat.add_pos_left Dat.pos _
abbrev Bs := Sl UInt8
def SA.rdss (gs : List G) : SA := ⟨fun w _ R => ∀ q ∈ gs, (q.n ≠ 0 → ∀ k ∈ own q.v, R k) ∧ Rd w q.sz q.v q.n q.cells,
  fun h hg q hq => ⟨(h q hq).1, hg.rd0 (h q hq).2 (fun hn k hk => .inr ((h q hq).1 hn k hk))⟩⟩
def SA.dat {α : Type} [Dat α] (x : α) : SA := SA.rdss (Dat.g x)
theorem flat_get {α : Type} {c : α → List Value} {sz : Nat} (hl : ∀ x, (c x).length = sz) (d : α) : ∀ (l : List α) (i k : Nat), i < l.length → k < sz → (l.flatMap c)[i * sz + k]? = (c (l.getD i d))[k]?
  | [], i, k, hi, _ => by simp at hi
  | x :: l, 0, k, _, hk => by rw [List.flatMap_cons, List.getElem?_append_left (by rw [hl]; omega)]; simp
  | x :: l, i + 1, k, hi, hk => by
    have h1 := hl x
    rw [List.flatMap_cons, List.getElem?_append_right (by rw [h1, Nat.add_mul]; omega), h1, show (i + 1) * sz + k - sz = i * sz + k by rw [Nat.add_mul]; omega]
    rw [flat_get hl d l i k (by simpa using hi) hk]
    simp
theorem flat_len {α : Type} {c : α → List Value} {sz : Nat} (hl : ∀ x, (c x).length = sz) (l : List α) : (l.flatMap c).length = l.length * sz := by
  induction l with
  | nil => simp
  | cons x r ih => simp [hl, ih, Nat.add_mul]; omega
section
variable {α β : Type} [Dat α] [Dat β] {P : Program} {N : Nat} {F : FE} {As L L0 : List SA} {A : SA} {κ : Ctx} {code : Code} {Q : Exit → Act → World → Prop} {v : Value} {o : Oper} {x : Operand}
theorem Dat.cs_app (l m : List α) : Dat.cs (l ++ m) = Dat.cs l ++ Dat.cs m := by simp [Dat.cs_eq]
theorem Dat.cs_one (x : α) : Dat.cs [x] = Dat.c x := by simp [Dat.cs_eq]
theorem Dat.cs_len (l : List α) : (Dat.cs l).length = l.length * Dat.sz α := by rw [Dat.cs_eq]; exact flat_len Dat.len l
theorem Dat.cs_take (l : List α) (k : Nat) : Dat.cs (l.take k) = (Dat.cs l).take (k * Dat.sz α) := by
  rw [Dat.cs_eq, Dat.cs_eq]
  induction l generalizing k with
  | nil => simp
  | cons x r ih =>
    cases k with
    | zero => simp
    | succ k => rw [List.take_succ_cons, List.flatMap_cons, List.flatMap_cons, ih, Nat.add_mul, Nat.one_mul, Nat.add_comm, ← Dat.len x, List.take_length_add_append]
theorem Dat.cs_get {l : List α} {i k : Nat} (d : α) (hi : i < l.length) (hk : k < Dat.sz α) : (Dat.cs l)[i * Dat.sz α + k]? = (Dat.c (l.getD i d))[k]? := by rw [Dat.cs_eq]; exact flat_get Dat.len d l i k hi hk
theorem Reads.dat {s : Sl α} : Reads (SA.dat s) (Dat.sz α) s.v s.l.length (Dat.cs s.l) := fun w O R h => (h ⟨Dat.sz α, s.v, s.l.length, Dat.cs s.l⟩ (by simp [Dat.g])).2
theorem Reads.bytes {s : Bs} : Reads (SA.dat s) 1 (.slice s.a s.l.length s.cap) s.l.length (s.l.map v8) := Reads.dat
theorem Dup.rdss {gs : List G} : Dup (SA.rdss gs) := fun _ _ _ h => h
theorem Dup.dat {x : α} : Dup (SA.dat x) := Dup.rdss
theorem Ent.rdss_sub {gs hs : List G} (h : ∀ q ∈ hs, q ∈ gs) : Ent (SA.rdss gs :: L) (SA.rdss hs :: SA.rdss gs :: L) :=
  (Ent.dup Dup.rdss).trans (Ent.imp fun w O R k => ⟨O, R, fun q hq => k q (h q hq), fun _ h => h, fun _ h => .inr h⟩)
theorem Ent.elem {s : Sl α} {x : α} (hx : x ∈ s.l) : Ent (SA.dat s :: L) (SA.dat x :: SA.dat s :: L) := Ent.rdss_sub fun q hq => List.mem_cons_of_mem _ (List.mem_flatMap.2 ⟨x, hx, hq⟩)
theorem Ent.fst {x : α × β} : Ent (SA.dat x :: L) (SA.dat x.1 :: SA.dat x :: L) := Ent.rdss_sub fun q hq => List.mem_append_left _ hq
theorem Ent.snd {x : α × β} : Ent (SA.dat x :: L) (SA.dat x.2 :: SA.dat x :: L) := Ent.rdss_sub fun q hq => List.mem_append_right _ hq
theorem Ent.rdsOf {s : Sl α} : Ent (SA.dat s :: L) (SA.rds (Dat.sz α) s.v s.l.length (Dat.cs s.l) :: SA.dat s :: L) :=
  (Ent.dup Dup.dat).trans (Ent.imp fun w O R k => ⟨O, R, k ⟨Dat.sz α, s.v, s.l.length, Dat.cs s.l⟩ (by simp [Dat.g]), fun _ h => h, fun _ h => .inr h⟩)
theorem Ent.bytesOf {s : Bs} : Ent (SA.dat s :: L) (SA.rds 1 (.slice s.a s.l.length s.cap) s.l.length (s.l.map v8) :: SA.dat s :: L) := Ent.rdsOf
theorem Ent.rdss0 : Ent L (SA.rdss [] :: L) := fun w O R h => ⟨O, R, ⟨fun _ => False, fun _ => False, O, R, fun x hx => by simp at hx, h, by simp, fun k hk => ⟨hk, by simp⟩, by simp, fun k hk => hk⟩, fun _ h => h, fun _ h => .inr h⟩
/-- two that are read, as one -/
theorem Ent.rdssApp {gs hs : List G} : Ent (SA.rdss gs :: SA.rdss hs :: L) (SA.rdss (gs ++ hs) :: L) := fun w O R h => by
  have h' := SA.Le.assoc' _ _ _ h
  obtain ⟨O1, R1, O2, R2, hA, hL, r⟩ := h'
  obtain ⟨O3, R3, O4, R4, hB, hC, s1, s2, s3, s4⟩ := hA
  refine ⟨O, R, ⟨O1, R1, O2, R2, fun q hq => ?_, hL, r⟩, fun _ h => h, fun _ h => .inr h⟩
  rcases List.mem_append.1 hq with h | h
  · exact ⟨fun hn k hk => s3 k ((hB q h).1 hn k hk), (hB q h).2⟩
  · exact ⟨fun hn k hk => s4 k ((hC q h).1 hn k hk), (hC q h).2⟩
theorem Ent.rdsG {sz n : Nat} {cs : List Value} : Ent (SA.rds sz v n cs :: L) (SA.rdss [⟨sz, v, n, cs⟩] :: L) := Ent.imp fun w O R h => ⟨O, R, fun q hq => by simp at hq; subst hq; exact h, fun _ h => h, fun _ h => .inr h⟩
/-- a slice and what it holds, put together -/
theorem Ent.mkSl {a : Option Addr} {n cap sz : Nat} {l : List α} {cells : List Value} (hn : l.length = n) (hs : Dat.sz α = sz) (hc : Dat.cs l = cells) : Ent (SA.rds sz (.slice a n cap) n cells :: SA.rdss (l.flatMap Dat.g) :: L) (SA.dat (⟨a, cap, l⟩ : Sl α) :: L) := by
  subst hn; subst hs; subst hc
  exact Ent.rdsG.trans Ent.rdssApp
theorem Ent.mkBytes {a : Option Addr} {n cap : Nat} {l : List UInt8} (hn : l.length = n) : Ent (SA.rds 1 (.slice a n cap) n (l.map v8) :: L) (SA.dat (⟨a, cap, l⟩ : Bs) :: L) := by
  subst hn
  have : l.flatMap (Dat.g : UInt8 → List G) = [] := List.flatMap_eq_nil_iff.2 fun _ _ => rfl
  refine Ent.trans (Ent.rdsG) ?_
  rw [show SA.dat (⟨a, cap, l⟩ : Bs) = SA.rdss [⟨1, .slice a l.length cap, l.length, l.map v8⟩] by
    show SA.rdss (⟨1, _, _, _⟩ :: l.flatMap Dat.g) = _
    rw [this]; rfl]
  exact Ent.refl
theorem reads_some {sz n cap : Nat} {a : Option Addr} {cs : List Value} (hA : Reads A sz (.slice a n cap) n cs) (h : In A L) (hn : 0 < n) (hs : 0 < sz) : ∀ w, Holds L w → ∃ g off, a = some ⟨g, off, none⟩ := fun w hw => by
  obtain ⟨O, R, h1⟩ := hw _ h
  obtain ⟨b, c, he, h2, h3, h4, h5⟩ := (hA _ _ _ h1).val
  cases he
  cases a with
  | none => have := (h4 rfl).1; omega
  | some p =>
    have hl := (hA _ _ _ h1).len
    have hpos : 0 < cs.length := by rw [hl]; exact Nat.mul_pos hn hs
    have hc := h5 p rfl 0 cs[0] (by simp [hpos])
    obtain ⟨g, off, spot⟩ := p
    have : spot = none := by
      cases spot with
      | none => rfl
      | some q =>
        simp only [Addr.add, if_pos, World.cell?] at hc
        split at hc <;> simp at hc
    subst this
    exact ⟨g, off, rfl⟩
theorem getS {α : Type} {l : List α} {i : Nat} (h : i < l.length) : ∃ x, l[i]? = some x ∧ x ∈ l := ⟨l[i], by simp [h], List.getElem_mem h⟩
theorem Dat.cs_at {l : List α} {i k : Nat} {x : α} (hx : l[i]? = some x) (hk : k < Dat.sz α) : (Dat.cs l)[i * Dat.sz α + k]? = (Dat.c x)[k]? := by
  obtain ⟨hi, he⟩ := List.getElem?_eq_some_iff.1 hx
  rw [Dat.cs_get x hi hk, List.getD_eq_getElem?_getD, hx]; rfl
/-- a place of an element of a slice of structs -/
theorem Cel.at {g off n cap sz i k : Nat} {l : List α} {x : α} (hA : Reads A sz (.slice (some ⟨g, off, none⟩) n cap) n (Dat.cs l)) (h : In A As) (hx : l[i]? = some x) (hv : (Dat.c x)[k]? = some v) (hs : Dat.sz α = sz := by rfl) : Cel As ⟨g, off + (i * sz + k), none⟩ v := by
  subst hs
  have hk : k < Dat.sz α := by rw [← Dat.len x]; exact (List.getElem?_eq_some_iff.1 hv).1
  have := Cel.reads hA h ((Dat.cs_at hx hk).trans hv)
  rwa [Addr.add_lit] at this
theorem Cel.at0 {g off n cap sz i : Nat} {l : List α} {x : α} (hA : Reads A sz (.slice (some ⟨g, off, none⟩) n cap) n (Dat.cs l)) (h : In A As) (hx : l[i]? = some x) (hv : (Dat.c x)[0]? = some v) (hs : Dat.sz α = sz := by rfl) : Cel As ⟨g, off + i * sz, none⟩ v := by
  have := Cel.at (k := 0) hA h hx hv hs
  rwa [Nat.add_zero] at this
theorem Cels.at {g off n cap sz i : Nat} {l : List α} {x : α} (hA : Reads A sz (.slice (some ⟨g, off, none⟩) n cap) n (Dat.cs l)) (h : In A As) (hx : l[i]? = some x) (hs : Dat.sz α = sz := by rfl) : Cels As ⟨g, off + i * sz, none⟩ (Dat.c x) := fun w hw j u hj => by
  have := Cel.at (k := j) hA h hx hj hs w hw
  rw [Addr.add_lit, Nat.add_assoc]; exact this
theorem Reads.datM {a : Option Addr} {cap : Nat} {l : List α} : Reads (SA.dat (⟨a, cap, l⟩ : Sl α)) (Dat.sz α) (.slice a l.length cap) l.length (Dat.cs l) := Reads.dat (s := ⟨a, cap, l⟩)
theorem Cel.datAt {g off cap sz i k : Nat} {l : List α} {x : α} (h : In (SA.dat (⟨some ⟨g, off, none⟩, cap, l⟩ : Sl α)) As) (hx : l[i]? = some x) (hv : (Dat.c x)[k]? = some v) (hs : Dat.sz α = sz := by rfl) : Cel As ⟨g, off + (i * sz + k), none⟩ v := by
  subst hs; exact Cel.at Reads.datM h hx hv
theorem Cel.datAt0 {g off cap sz i : Nat} {l : List α} {x : α} (h : In (SA.dat (⟨some ⟨g, off, none⟩, cap, l⟩ : Sl α)) As) (hx : l[i]? = some x) (hv : (Dat.c x)[0]? = some v) (hs : Dat.sz α = sz := by rfl) : Cel As ⟨g, off + i * sz, none⟩ v := by
  subst hs; exact Cel.at0 Reads.datM h hx hv
theorem Cel.datAtS {g off cap i : Nat} {l : List α} {x : α} (h : In (SA.dat (⟨some ⟨g, off, none⟩, cap, l⟩ : Sl α)) As) (hx : l[i]? = some x) (hv : (Dat.c x)[0]? = some v) (hs : Dat.sz α = 1 := by rfl) : Cel As ⟨g, off + i, none⟩ v := by
  have := Cel.datAt0 h hx hv hs
  rwa [Nat.mul_one] at this
theorem Cels.datAt {g off cap sz i : Nat} {l : List α} {x : α} (h : In (SA.dat (⟨some ⟨g, off, none⟩, cap, l⟩ : Sl α)) As) (hx : l[i]? = some x) (hs : Dat.sz α = sz := by rfl) : Cels As ⟨g, off + i * sz, none⟩ (Dat.c x) := by
  subst hs; exact Cels.at Reads.datM h hx
theorem dat_some {cap : Nat} {a : Option Addr} {l : List α} (h : In (SA.dat (⟨a, cap, l⟩ : Sl α)) L) (hn : 0 < l.length) : ∀ w, Holds L w → ∃ g off, a = some ⟨g, off, none⟩ := reads_some Reads.datM h hn Dat.pos
theorem dat_cap {cap : Nat} {a : Option Addr} {l : List α} (h : In (SA.dat (⟨a, cap, l⟩ : Sl α)) L) : ∀ w, Holds L w → l.length ≤ cap ∧ cap ≤ 9223372036854775807 ∧ (a = none → l.length = 0) := fun w hw =>
  let ⟨h1, h2, _, h3⟩ := reads_cap Reads.datM h w hw; ⟨h1, by simpa only [maxLen] using h2, h3⟩
/-- a slice more that is read -/
theorem Ent.bsCons {a : Option Addr} {n cap : Nat} {l : List UInt8} {xs : List Bs} (hn : l.length = n) : Ent (SA.rds 1 (.slice a n cap) n (l.map v8) :: SA.rdss (xs.flatMap Dat.g) :: L) (SA.rdss (((⟨a, cap, l⟩ : Bs) :: xs).flatMap Dat.g) :: L) := by
  rw [List.flatMap_cons]
  exact (Ent.mkBytes hn).trans Ent.rdssApp
theorem Ent.bsPull {e n cap : Nat} {a : Option Addr} {l : List UInt8} {cs : List Value} {xs : List Bs} {L1 L2 : List SA} (h1 : Pull (SA.rdss (xs.flatMap Dat.g)) L L1) (h2 : Pull (SA.owns e 1 (.slice a n cap) n cs) L1 L2) (hn : l.length = n) (hc : l.map v8 = cs) : Ent L (SA.rdss (((⟨a, cap, l⟩ : Bs) :: xs).flatMap Dat.g) :: L2) := by
  subst hc
  exact h1.ent.trans ((h2.ent.under _).trans (Ent.swap.trans (Ent.freeze.trans (Ent.bsCons hn))))
theorem Ent.bsPullR {n cap : Nat} {a : Option Addr} {l : List UInt8} {cs : List Value} {xs : List Bs} {L1 L2 : List SA} (h1 : Pull (SA.rdss (xs.flatMap Dat.g)) L L1) (h2 : Pull (SA.rds 1 (.slice a n cap) n cs) L1 L2) (hn : l.length = n) (hc : l.map v8 = cs) : Ent L (SA.rdss (((⟨a, cap, l⟩ : Bs) :: xs).flatMap Dat.g) :: L2) := by
  subst hc
  exact h1.ent.trans ((h2.ent.under _).trans (Ent.swap.trans (Ent.bsCons hn)))
theorem Ent.bsNil : Ent L (SA.rdss (([] : List Bs).flatMap Dat.g) :: L) := Ent.rdss0
/-- a block that is not written any more, read as a slice -/
theorem Ent.rdOfBlk {b T sz n : Nat} {cs : Array Value} {c : List Value} {L1 : List SA} (h1 : Pull (SA.blk b cs T) L L1) (hR : Reads (SA.blk b cs T) sz v n c) (ho : own v = [b]) : Ent L (SA.rds sz v n c :: L1) :=
  h1.ent.trans (Ent.imp fun w O R h => ⟨fun _ => False, O, ⟨fun _ k hk => by rw [ho] at hk; simp at hk; subst hk; exact h.1, hR w O R h⟩, fun _ h => h.elim, fun _ h => .inl h⟩)
theorem Ent.mkJoin {e g n : Nat} {xs : List Bs} {cells : List Value} {L1 L2 : List SA} (h1 : Pull (SA.rdss (xs.flatMap Dat.g)) L L1) (h2 : Pull (SA.owns e 1 (.slice (some ⟨g, 0, none⟩) n n) n cells) L1 L2) (hn : xs.length = n) (hc : xs.map Sl.v = cells) : Ent L (SA.dat (⟨some ⟨g, 0, none⟩, n, xs⟩ : Sl Bs) :: L2) :=
  h1.ent.trans ((h2.ent.under _).trans (Ent.swap.trans (Ent.freeze.trans (Ent.mkSl hn rfl hc))))
/-- the address of a field, the base kept apart -/
theorem Y.fieldAddrJ {s f : Nat} {off b k j q : Nat} (ho : o.op = .fieldAddr s x f) (hf : Program.fieldOff P s f = some off) (hx : evO F x = some (.pointer (some ⟨b, k + j, none⟩))) (hq : j + off = q) : Yld P N o F As (.pointer (some ⟨b, k + q, none⟩)) :=
  Y.fieldAddr ho hf hx (by omega)
theorem Src.dat {s : Bs} {tx e' : Nat} (hk : P.underlying tx = some (.slice e')) (h : In (SA.dat s) As) : ∀ w, Holds As w → Src P 1 tx (.slice s.a s.l.length s.cap) s.l.length (s.l.map v8) w := Src.reads Reads.bytes hk h
/-- what there is, is named -/
theorem TC.open {γ : Type} {f : γ → SA} (hp : Pull (SA.ex f) L L0) (k : ∀ x, TC κ P N code F (f x :: L0) Q) : TC κ P N code F L Q := fun ds a w ha hd hw => by
  have h1 := ((Pull.there (B := SA.hid κ.X ds) hp).st hw)
  obtain ⟨x, h⟩ := h1.ex
  exact k x ds a w ha hd h.up1
/-- a truth is known -/
theorem TL.is {d : Nat} {b : Bool} {ops : Array Oper} {rest : List Oper} (c : Bool) (h : b = c) (k : TL κ P N ops rest ((d, some (.bool c)) :: F) L Q) : TL κ P N ops rest ((d, some (.bool b)) :: F) L Q := h ▸ k
theorem TA.is {d last fuel : Nat} {b : Bool} {ops : Array Oper} {listed : Array Bool} (c : Bool) (h : b = c) (k : TA κ P N ops last As fuel listed ((d, some (.bool c)) :: F) L Q) : TA κ P N ops last As fuel listed ((d, some (.bool b)) :: F) L Q := h ▸ k
/-- a value, said in other words -/
theorem TL.as {d : Nat} {v : Value} {ops : Array Oper} {rest : List Oper} (u : Value) (h : v = u) (k : TL κ P N ops rest ((d, some u) :: F) L Q) : TL κ P N ops rest ((d, some v) :: F) L Q := h ▸ k
theorem TA.as {d last fuel : Nat} {v : Value} {ops : Array Oper} {listed : Array Bool} (u : Value) (h : v = u) (k : TA κ P N ops last As fuel listed ((d, some u) :: F) L Q) : TA κ P N ops last As fuel listed ((d, some v) :: F) L Q := h ▸ k
theorem TA.to {last fuel : Nat} {ops : Array Oper} {listed : Array Bool} {L' : List SA} (h : Ent L L') (k : TA κ P N ops last As fuel listed F L' Q) : TA κ P N ops last As fuel listed F L Q := fun ds a w ha hd hw hS => k ds a w ha hd (h.hid hw) hS
theorem TA.know {last fuel : Nat} {ops : Array Oper} {listed : Array Bool} {φ : Prop} (h : ∀ w, Holds L w → φ) (k : φ → TA κ P N ops last As fuel listed F L Q) : TA κ P N ops last As fuel listed F L Q := fun ds a w ha hd hw hS => k (h w hw.tl.holds) ds a w ha hd hw hS
theorem TL.open {γ : Type} {f : γ → SA} {ops : Array Oper} {rest : List Oper} (hp : Pull (SA.ex f) L L0) (k : ∀ x, TL κ P N ops rest F (f x :: L0) Q) : TL κ P N ops rest F L Q := fun ds a w ha hd hw => by
  have h1 := ((Pull.there (B := SA.hid κ.X ds) hp).st hw)
  obtain ⟨x, h⟩ := h1.ex
  exact k x ds a w ha hd h.up1
theorem TL.split {B : SA} {ops : Array Oper} {rest : List Oper} (hp : Pull (SA.star A B) L L0) (k : TL κ P N ops rest F (A :: B :: L0) Q) : TL κ P N ops rest F L Q := fun ds a w ha hd hw =>
  k ds a w ha hd ((Ent.starE.under _).st ((hp.ent.under _).st hw))
theorem TC.split {B : SA} (hp : Pull (SA.star A B) L L0) (k : TC κ P N code F (A :: B :: L0) Q) : TC κ P N code F L Q := fun ds a w ha hd hw =>
  k ds a w ha hd ((Ent.starE.under _).st ((hp.ent.under _).st hw))
/-! ### arguments that are such data -/
/-- the slices can be read -/
def RdAll (W : World) (gs : List G) : Prop := ∀ q ∈ gs, 0 < q.sz ∧ Rd W q.sz q.v q.n q.cells
theorem RdAll.app {W : World} {gs hs : List G} (h : RdAll W gs) (k : RdAll W hs) : RdAll W (gs ++ hs) := fun q hq => (List.mem_append.1 hq).elim (h q) (k q)
/-- values of this type are such data, within bounds -/
def DatT (P : Program) (t : TypeId) (α : Type) [Dat α] (Bd : α → Prop) : Prop :=
  ∀ (H : Type) (enc : TypeId × Value → H) (W : World) (cs : List Value), Opn enc P W t cs → ∃ x : α, cs = Dat.c x ∧ RdAll W (Dat.g x) ∧ Bd x
/-- from a place on -/
def DatF (P : Program) (t off : Nat) (α : Type) [Dat α] (Bd : α → Prop) : Prop :=
  ∀ (H : Type) (enc : TypeId × Value → H) (W : World) (cs : List Value), Opn enc P W t cs → ∃ x : α, cs.drop off = Dat.c x ∧ RdAll W (Dat.g x) ∧ Bd x
theorem RdAll.st {W : World} {gs : List G} (h : RdAll W gs) : ∃ R, (SA.rdss gs).p W (fun _ => False) R ∧ ∀ k, R k → k < W.heap.size := by
  refine ⟨fun k => ∃ q ∈ gs, q.n ≠ 0 ∧ k ∈ own q.v, fun q hq => ⟨fun hn k hk => ⟨q, hq, hn, hk⟩, (h q hq).2⟩, ?_⟩
  rintro k ⟨q, hq, hn, hk⟩
  obtain ⟨R, h1, h2⟩ := (h q hq).2.arg (h q hq).1
  exact h2 k (h1.1 hn k hk)
theorem wf_u16 {n : Int} (h : (Lit.int .u16 n).wf = true) : n = ((UInt16.ofNat n.toNat).toNat : Int) := by
  have := bounds_u16 h
  rw [UInt16.toNat_ofNat_of_lt' (by show n.toNat < 65536; omega)]; omega
theorem wf_u32 {n : Int} (h : (Lit.int .u32 n).wf = true) : n = ((UInt32.ofNat n.toNat).toNat : Int) := by
  have := bounds_u32 h
  rw [UInt32.toNat_ofNat_of_lt' (by show n.toNat < 4294967296; omega)]; omega
theorem DatT.u8 {t : TypeId} (h : P.underlying t = some (.int .u8)) : DatT P t UInt8 (fun _ => True) := fun H enc W cs ho => by
  obtain ⟨n, rfl, hn⟩ := ho.int h
  exact ⟨b8 n, by show [Value.int .u8 n] = [Value.int .u8 _]; rw [← wf_u8 hn], fun q hq => (by cases hq), trivial⟩
theorem DatT.u16 {t : TypeId} (h : P.underlying t = some (.int .u16)) : DatT P t UInt16 (fun _ => True) := fun H enc W cs ho => by
  obtain ⟨n, rfl, hn⟩ := ho.int h
  exact ⟨UInt16.ofNat n.toNat, by show [Value.int .u16 n] = [Value.int .u16 _]; rw [← wf_u16 hn], fun q hq => (by cases hq), trivial⟩
theorem DatT.u32 {t : TypeId} (h : P.underlying t = some (.int .u32)) : DatT P t UInt32 (fun _ => True) := fun H enc W cs ho => by
  obtain ⟨n, rfl, hn⟩ := ho.int h
  exact ⟨UInt32.ofNat n.toNat, by show [Value.int .u32 n] = [Value.int .u32 _]; rw [← wf_u32 hn], fun q hq => (by cases hq), trivial⟩
/-- an int's bounds -/
def inI (n : Int) : Prop := -9223372036854775808 ≤ n ∧ n ≤ 9223372036854775807
theorem DatT.int {t : TypeId} (h : P.underlying t = some (.int .i64)) : DatT P t Int inI := fun H enc W cs ho => by
  obtain ⟨n, rfl, hn⟩ := ho.int h
  have := bounds_i64 hn
  exact ⟨n, rfl, fun q hq => (by cases hq), by unfold inI; omega⟩
theorem DatT.bool {t : TypeId} (h : P.underlying t = some .bool) : DatT P t Bool (fun _ => True) := fun H enc W cs ho => by
  obtain ⟨n, rfl⟩ := ho.bool h
  exact ⟨n, rfl, fun q hq => (by cases hq), trivial⟩
theorem DatT.string {t : TypeId} (h : P.underlying t = some .string) : DatT P t ByteArray (fun s => s.size ≤ reachBytes) := fun H enc W cs ho => by
  obtain ⟨n, rfl, hn⟩ := ho.string h
  exact ⟨n, rfl, fun q hq => (by cases hq), hn⟩
theorem DatT.slice {t e B : Nat} {Bd : α → Prop} (ht : P.underlying t = some (.slice e)) (hc : P.cellsOf e = Dat.sz α) (hB : P.bytesOf e = B) (he : DatT P e α Bd) : DatT P t (Sl α) (fun s => s.l.length * B ≤ reachBytes ∧ ∀ x ∈ s.l, Bd x) := fun H enc W cs ho => by
  rcases ho.slice ht with h1 | ⟨a, len, cap, h1, hl, hm, hr, hx⟩
  · refine ⟨⟨none, 0, []⟩, h1, ?_, by simp, by simp⟩
    intro q hq
    have hq : q = ⟨Dat.sz α, .slice none 0 0, 0, Dat.cs ([] : List α)⟩ := by simp [Dat.g] at hq; exact hq
    subst hq
    exact ⟨Dat.pos, by simp [Dat.cs_eq], by simp [Dat.cs_eq], none, 0, rfl, by simp, by simp, by simp, by simp [Dat.cs_eq]⟩
  · rw [hc, hB] at *
    obtain ⟨xs, g1, g2⟩ := choose_list (q := fun i (x : α) => (∀ j u, (Dat.c x)[j]? = some u → W.cell? (a.add (i * Dat.sz α + j)) = some u) ∧ RdAll W (Dat.g x) ∧ Bd x) (n := len) (fun i hi => by
      obtain ⟨es, e1, e2, e3⟩ := hx i hi
      obtain ⟨x, rfl, hg, hb⟩ := he H enc W es e3
      exact ⟨x, e2, hg, hb⟩)
    subst g1
    have g2' : ∀ x ∈ xs, RdAll W (Dat.g x) ∧ Bd x := fun x hx => by
      obtain ⟨i, hi, rfl⟩ := List.getElem_of_mem hx
      exact (g2 i _ (List.getElem?_eq_getElem hi)).2
    refine ⟨⟨some a, cap, xs⟩, h1, ?_, Nat.le_trans (Nat.mul_le_mul_right _ hl) hr, fun x hx => (g2' x hx).2⟩
    intro q hq
    have hq : q = ⟨Dat.sz α, .slice (some a) xs.length cap, xs.length, Dat.cs xs⟩ ∨ q ∈ xs.flatMap Dat.g := List.mem_cons.1 hq
    rcases hq with rfl | hq
    · refine ⟨Dat.pos, Dat.cs_len xs, ?_, some a, cap, rfl, hl, hm, by simp, ?_⟩
      · intro u hu
        rw [Dat.cs_eq] at hu
        obtain ⟨x, hx, hu⟩ := List.mem_flatMap.1 hu
        exact Dat.one x u hu
      · intro b hb j u hu
        cases hb
        have hj : j < xs.length * Dat.sz α := by rw [← Dat.cs_len]; exact (List.getElem?_eq_some_iff.1 hu).1
        have hi : j / Dat.sz α < xs.length := Nat.div_lt_of_lt_mul (by rw [Nat.mul_comm]; exact hj)
        have hmod := Nat.mod_lt j (Dat.pos (α := α))
        have ej : j / Dat.sz α * Dat.sz α + j % Dat.sz α = j := Nat.div_add_mod' j _
        have := (g2 _ _ (List.getElem?_eq_getElem hi)).1 (j % Dat.sz α) u (by rw [← Dat.cs_at (List.getElem?_eq_getElem hi) hmod, ej]; exact hu)
        rwa [ej] at this
    · obtain ⟨x, hx, hq⟩ := List.mem_flatMap.1 hq
      exact (g2' x hx).1 q hq
theorem DatF.cons {t t' off n i : Nat} {fs : Array Field} {B1 : α → Prop} {B2 : β → Prop} (ht : P.underlying t = some (.struct fs)) (hf : (fs[i]?).map (fun f => (f.type, f.offset)) = some (t', off)) (hc : P.cellsOf t' = n) (h1 : DatT P t' α B1) (h2 : DatF P t (off + n) β B2) : DatF P t off (α × β) (fun x => B1 x.1 ∧ B2 x.2) := fun H enc W cs ho => by
  obtain ⟨x, e1, g1, b1⟩ := h1 H enc W _ (ho.field ht i t' off hf hc)
  obtain ⟨y, e2, g2, b2⟩ := h2 H enc W cs ho
  refine ⟨(x, y), ?_, g1.app g2, b1, b2⟩
  show cs.drop off = Dat.c x ++ Dat.c y
  rw [← e1, ← e2, ← List.drop_drop, List.take_append_drop]
theorem DatF.last {t t' off n i : Nat} {fs : Array Field} {B1 : α → Prop} (ht : P.underlying t = some (.struct fs)) (hf : (fs[i]?).map (fun f => (f.type, f.offset)) = some (t', off)) (hc : P.cellsOf t' = n) (h1 : DatT P t' α B1) (hl : P.cellsOf t = off + n) : DatF P t off α B1 := fun H enc W cs ho => by
  obtain ⟨x, e1, g1, b1⟩ := h1 H enc W _ (ho.field ht i t' off hf hc)
  refine ⟨x, ?_, g1, b1⟩
  rw [← e1, List.take_of_length_le]
  have := (ho.struct ht).1
  rw [List.length_drop]; omega
theorem DatF.all {t : Nat} {B1 : α → Prop} (h : DatF P t 0 α B1) : DatT P t α B1 := fun H enc W cs ho => by
  obtain ⟨x, e, g⟩ := h H enc W cs ho
  exact ⟨x, by simpa using e, g⟩
end
end Go.Proofs.Ytomplpdeeomehaa

/- More rules: comparisons with nil; readable slices cut. No program is named. -/
namespace Go.Proofs.Ytomplpdeeomehaa
set_option linter.unusedVariables false
set_option linter.unusedSimpArgs false
open Go.RowKit
section
variable {P : Program} {N : Nat} {F : FE} {As L L0 : List SA} {o : Oper} {x y : Operand} {u : Value}
theorem Y.cmpNilS {t yt e n c : Nat} {a : Option Addr} {neg : Bool} (ho : o.op = .binOp (if neg then .neq else .eql) t x y yt) (hu : P.underlying t = some (.slice e)) (hx : evO F x = some (.slice a n c)) (hy : evO F y = some (.slice none 0 0)) : Yld P N o F As (.bool (if neg then !a.isNone else a.isNone)) := fun a' w ha _ => by
  unfold execOp; rw [ho]
  replace hx := ha.eval hx
  replace hy := ha.eval hy
  generalize a'.eval = ρ at hx hy ⊢
  cases neg
  · simp [hx, hy, eqGuard, binOp, run_equal_slice_nil _ t e a n c hu, go_sem]
  · simp [hx, hy, eqGuard, binOp, run_equal_slice_nil _ t e a n c hu, go_sem]
theorem Y.eqNilS {t yt e n c : Nat} {a : Option Addr} (ho : o.op = .binOp .eql t x y yt) (hu : P.underlying t = some (.slice e)) (hx : evO F x = some (.slice a n c)) (hy : evO F y = some (.slice none 0 0)) : Yld P N o F As (.bool a.isNone) := Y.cmpNilS (neg := false) ho hu hx hy
theorem Y.neNilS {t yt e n c : Nat} {a : Option Addr} (ho : o.op = .binOp .neq t x y yt) (hu : P.underlying t = some (.slice e)) (hx : evO F x = some (.slice a n c)) (hy : evO F y = some (.slice none 0 0)) : Yld P N o F As (.bool (!a.isNone)) := Y.cmpNilS (neg := true) ho hu hx hy
theorem Y.cmpNilP {t yt e : Nat} {p : Option Addr} {neg : Bool} (ho : o.op = .binOp (if neg then .neq else .eql) t x y yt) (hu : P.underlying t = some (.pointer e)) (hx : evO F x = some (.pointer p)) (hy : evO F y = some (.pointer none)) : Yld P N o F As (.bool (if neg then !p.isNone else p.isNone)) := fun a' w ha _ => by
  have hu : P.underlying t = some (.pointer (P.pointee t)) := by
    have : P.pointee t = e := by unfold Program.pointee; rw [hu]
    rw [this]; exact hu
  unfold execOp; rw [ho]
  replace hx := ha.eval hx
  replace hy := ha.eval hy
  generalize a'.eval = ρ at hx hy ⊢
  cases neg
  · simp [hx, hy, eqGuard, binOp, run_equal_pointer_nil _ t p hu, go_sem]
  · simp [hx, hy, eqGuard, binOp, run_equal_pointer_nil _ t p hu, go_sem]
theorem Y.eqNilP {t yt e : Nat} {p : Addr} (ho : o.op = .binOp .eql t x y yt) (hu : P.underlying t = some (.pointer e)) (hx : evO F x = some (.pointer (some p))) (hy : evO F y = some (.pointer none)) : Yld P N o F As (.bool false) := Y.cmpNilP (neg := false) ho hu hx hy
theorem Y.neNilP {t yt e : Nat} {p : Addr} (ho : o.op = .binOp .neq t x y yt) (hu : P.underlying t = some (.pointer e)) (hx : evO F x = some (.pointer (some p))) (hy : evO F y = some (.pointer none)) : Yld P N o F As (.bool true) := Y.cmpNilP (neg := true) ho hu hx hy
theorem Y.eqNil0 {t yt e : Nat} (ho : o.op = .binOp .eql t x y yt) (hu : P.underlying t = some (.pointer e)) (hx : evO F x = some (.pointer none)) (hy : evO F y = some (.pointer none)) : Yld P N o F As (.bool true) := Y.cmpNilP (neg := false) ho hu hx hy
theorem Y.neNil0 {t yt e : Nat} (ho : o.op = .binOp .neq t x y yt) (hu : P.underlying t = some (.pointer e)) (hx : evO F x = some (.pointer none)) (hy : evO F y = some (.pointer none)) : Yld P N o F As (.bool false) := Y.cmpNilP (neg := true) ho hu hx hy
theorem own_cut {a : Option Addr} {n cap k : Nat} {sz : Nat} : ∀ q ∈ own (cutV a cap k n sz), q ∈ own (.slice a n cap) := by
  intro q hq
  unfold cutV at hq
  split at hq
  · cases a with
    | none => simp [own] at hq
    | some p => simpa [own] using hq
  · cases a with
    | none => simp [own] at hq
    | some p => simpa [own, add_block] using hq
theorem Ent.dropRds {sz n cap k : Nat} {a : Option Addr} {cs : List Value} (hk : k ≤ n) : Ent (SA.rds sz (.slice a n cap) n cs :: L) (SA.rds sz (cutV a cap k n sz) (n - k) (cs.drop (k * sz)) :: L) := Ent.imp fun w O R h =>
  ⟨O, R, ⟨fun hn q hq => h.1 (by omega) q (own_cut q hq), h.2.drop hk⟩, fun _ h => h, fun _ h => .inr h⟩
theorem Ent.cutRds {n cap k : Nat} {a : Option Addr} {l : List UInt8} (hk : k ≤ n) : Ent (SA.rds 1 (.slice a n cap) n (l.map v8) :: L) (SA.rds 1 (.slice a k cap) k ((l.take k).map v8) :: SA.rds 1 (cutV a cap k n 1) (n - k) ((l.drop k).map v8) :: L) := by
  have h := (Ent.dup Dup.rds).trans ((Ent.takeRds (sz := 1) (a := a) (cap := cap) (cs := l.map v8) hk).trans (Ent.under (L := SA.rds 1 (.slice a n cap) n (l.map v8) :: L) _ (Ent.dropRds hk)))
  simpa [List.map_take, List.map_drop] using h
/-! ### slice literals of structs -/
theorem flat_len' {sz : Nat} {vs : List Value} (h : ∀ v ∈ vs, v.cells.size = sz) : (vs.flatMap (·.cells.toList)).length = vs.length * sz := by
  induction vs with
  | nil => simp
  | cons x r ih => rw [List.flatMap_cons, List.length_append, ih (fun v hv => h v (by simp [hv])), Array.length_toList, h x (by simp), List.length_cons, Nat.add_mul]; omega
theorem writeAt_app (xs ys : List Value) : ∀ (cs : Array Value) (o : Nat), writeAt cs o (xs ++ ys) = writeAt (writeAt cs o xs) (o + xs.length) ys := by
  induction xs with
  | nil => intro cs o; rfl
  | cons x r ih => intro cs o; simp only [List.cons_append, writeAt, ih, List.length_cons]; congr 1; omega
theorem fold_write (l : List Value) : ∀ (cs : Array Value) (o k : Nat), (l.zipIdx k).foldl (fun cs (p : Value × Nat) => cs.setIfInBounds (o + p.2) p.1) cs = writeAt cs (o + k) l := by
  induction l with
  | nil => intro cs o k; rfl
  | cons v r ih => intro cs o k; simp only [List.zipIdx_cons, List.foldl_cons, writeAt, ih]; rfl
theorem fill_flat {sz : Nat} (vs : List Value) : ∀ (k : Nat) (cells : Array Value), (∀ v ∈ vs, v.cells.size = sz) → (k + vs.length) * sz ≤ cells.size →
    Instr.fill (fun i => some (i * sz, sz)) cells ((List.range' k vs.length).zip vs) = some (writeAt cells (k * sz) (vs.flatMap (·.cells.toList))) := by
  induction vs with
  | nil => intro k cells _ _; rfl
  | cons v r ih =>
    intro k cells h1 hk
    have hs := h1 v (by simp)
    simp only [List.length_cons] at hk ⊢
    rw [List.range'_succ, List.zip_cons_cons, Instr.fill]
    have h2 : k * sz + sz ≤ (k + (r.length + 1)) * sz := by rw [← Nat.succ_mul]; exact Nat.mul_le_mul_right _ (by omega)
    have hc : ¬ (k * sz + v.cells.size > cells.size) := by rw [hs]; omega
    have hf : v.cells.zipIdx.foldl (fun cs (p : Value × Nat) => cs.setIfInBounds (k * sz + p.2) p.1) cells = writeAt cells (k * sz) v.cells.toList := by
      rw [← Array.foldl_toList, Array.toList_zipIdx]
      exact fold_write v.cells.toList cells (k * sz) 0
    have := ih (k + 1) (writeAt cells (k * sz) v.cells.toList) (fun u hu => h1 u (by simp [hu])) (by rw [writeAt_size]; rw [show k + 1 + r.length = k + (r.length + 1) by omega]; exact hk)
    have hd : (decide (v.cells.size ≠ sz) || decide (k * sz + v.cells.size > cells.size)) = false := by simp [hs]; omega
    simp only [hd, Bool.false_eq_true, if_false]
    show Instr.fill _ (v.cells.zipIdx.foldl (fun cs (p : Value × Nat) => cs.setIfInBounds (k * sz + p.2) p.1) cells) _ = _
    rw [hf, this, List.flatMap_cons, writeAt_app]
    congr 2
    rw [Nat.add_mul, Array.length_toList, hs, Nat.one_mul]
/-- a slice literal of structs, all given -/
theorem X.litA {t e sz bytes n : Nat} {z : Value} {parts : List (Nat × Operand)} {vs cells : List Value} (ho : o.op = .buildSlice t n parts.toArray) (hu : P.underlying t = some (.slice e)) (hz : ((P.info? e).bind fun i => i.zero.map fun z => (i.size, z.cells.size)) = some (sz, sz)) (hp : evA F (parts.map (·.2)) = some vs) (hi : parts.map (·.1) = List.range' 0 vs.length) (hlen : vs.length = n) (hn : n * sz ≤ 16777216) (hpos : 0 < sz) (hm : n ≤ maxLen)
    (h1 : vs.all (fun v => v.cells.size == sz) = true) (hc : vs.flatMap (·.cells.toList) = cells) (hone : cells.all (·.oneCell') = true) :
    Eff P N o F L (fun v L' => ∃ g, v = .slice (some ⟨g, 0, none⟩) n n ∧ L' = SA.owns e sz (.slice (some ⟨g, 0, none⟩) n n) n cells :: L) := by
  have h1' : ∀ v ∈ vs, v.cells.size = sz := fun v hv => by simpa using List.all_eq_true.1 h1 v hv
  obtain ⟨inf, hinf, hq⟩ := Option.bind_eq_some_iff.1 hz
  obtain ⟨zv, hzv, hq2⟩ := Option.map_eq_some_iff.1 hq
  simp only [Prod.mk.injEq] at hq2
  have hlc : cells.length = n * sz := by rw [← hc, ← hlen]; exact flat_len' h1'
  have := X.buildSlice (L := L) (e := e) (sz := sz) (cells := cells.toArray) ho hp (N := N) (P := P) (fun w => ?_) (by simpa using hlc) (by simpa using hone) hm
  · simpa using this
  · rw [hi]
    have hcn : ¬ (n * sz > 2 ^ 24) := by omega
    unfold Instr.buildSlice
    simp only [Sem.run_bind, run_underlying hu, Result.andThen_ok, sizeOf, typeInfo, List.toList_toArray]
    simp only [Sem.run_bind, run_program, Result.andThen_ok, hinf, Sem.run_pure, hq2.1]
    have hfill : ∀ zz : Array Value, Instr.fill (fun i => some (i * sz, sz)) (Array.map (fun x => zz[x % zz.size]!) (Array.range (n * sz))) ((List.range' 0 vs.length).zip vs) = some cells.toArray := fun zz => by
      rw [fill_flat vs 0 _ h1' (by simp [hlen]), hc, Nat.zero_mul, writeAt_all _ _ (by simp [hlc])]
    have hzr : (zeroValue e).run P w = .ok zv w := by simp [zeroValue, typeInfo, hinf, hzv, go_sem]
    have htail : ∀ zz : Array Value, Sem.run P (match Instr.fill (fun i => some (i * sz, sz)) (Array.map (fun x => zz[x % zz.size]!) (Array.range (n * sz))) ((List.range' 0 vs.length).zip vs) with
        | some cells => do
          let r ← newRow e cells
          pure (Value.slice (some r) n n)
        | x => stuck "buildSlice: a part of the wrong size") w = Result.ok (Value.slice (some { block := w.heap.size, off := 0 }) n n) (w.alloc (Obj.cells cells.toArray e)) := fun zz => by
      rw [hfill]
      rfl
    rw [if_neg hcn]
    by_cases h0 : n * sz = 0
    · rw [if_pos h0]
      exact htail #[]
    · rw [if_neg h0, Sem.run_bind, hzr, Result.andThen_ok]
      exact htail zv.cells
theorem holds_nil : ∀ w, Holds L w → Holds [] w := fun w _ A hA => by cases hA
theorem holds_cons {A : SA} (hA : In A L) (h : ∀ w, Holds L w → Holds As w) : ∀ w, Holds L w → Holds (A :: As) w := fun w hw B hB => by
  cases hB with
  | here => exact hw _ hA
  | there hB => exact h w hw B hB
end
end Go.Proofs.Ytomplpdeeomehaa

/- Bits of ints that are not negative; more on ints. No program is named. -/
namespace Go.Proofs.Ytomplpdeeomehaa
set_option linter.unusedVariables false
set_option linter.unusedSimpArgs false
open Go.RowKit
theorem ofInt_nat (m : Nat) : BitVec.ofInt 64 (m : Int) = BitVec.ofNat 64 m := by
  apply BitVec.eq_of_toNat_eq; simp
theorem br_andN {m n : Nat} (hm : m < 9223372036854775808) (hn : n < 9223372036854775808) : BR .and .i64 m .i64 n (vN (m &&& n)) := fun P w t => by
  show Result.ok (Value.int .i64 (IntKind.i64.wrap ((BitVec.ofInt 64 (m : Int) &&& BitVec.ofInt 64 (n : Int)).toNat : Nat))) w = _
  rw [ofInt_nat, ofInt_nat, BitVec.toNat_and, BitVec.toNat_ofNat, BitVec.toNat_ofNat, Nat.mod_eq_of_lt (by omega), Nat.mod_eq_of_lt (by omega)]
  have : m &&& n ≤ m := Nat.and_le_left
  rw [wrap_i64 _ (by omega) (by omega)]
theorem br_orN {m n : Nat} (hm : m < 9223372036854775808) (hn : n < 9223372036854775808) : BR .or .i64 m .i64 n (vN (m ||| n)) := fun P w t => by
  show Result.ok (Value.int .i64 (IntKind.i64.wrap ((BitVec.ofInt 64 (m : Int) ||| BitVec.ofInt 64 (n : Int)).toNat : Nat))) w = _
  rw [ofInt_nat, ofInt_nat, BitVec.toNat_or, BitVec.toNat_ofNat, BitVec.toNat_ofNat, Nat.mod_eq_of_lt (by omega), Nat.mod_eq_of_lt (by omega)]
  have : m ||| n < 2 ^ 63 := Nat.or_lt_two_pow (by omega) (by omega)
  rw [wrap_i64 _ (by omega) (by omega)]
theorem br_shlN {m n c : Nat} {k : IntKind} (hc : 2 ^ n = c) (hn : n ≤ 64) (h : m * c < 9223372036854775808) : BR .shl .i64 m k n (vN (m * c)) := fun P w t => by
  subst hc
  have hneg : ¬ ((n : Int) < 0) := by omega
  show (Op.shift .shl .i64 (m : Int) k (n : Int)).run P w = _
  unfold Op.shift
  rw [if_neg hneg]
  show Result.ok (Value.int .i64 (IntKind.i64.wrap ((m : Int) * (2 ^ (min (n : Int).toNat 64))))) w = _
  have e : ((m : Int) * 2 ^ n) = ((m * 2 ^ n : Nat) : Int) := by rw [Int.natCast_mul, Int.natCast_pow]; rfl
  rw [Int.toNat_natCast, Nat.min_eq_left hn, e, wrap_i64 _ (by omega) (by omega)]
theorem br_shrN {m n c : Nat} {k : IntKind} (hc : 2 ^ n = c) (hn : n ≤ 64) : BR .shr .i64 m k n (vN (m / c)) := fun P w t => by
  subst hc
  have hneg : ¬ ((n : Int) < 0) := by omega
  show (Op.shift .shr .i64 (m : Int) k (n : Int)).run P w = _
  unfold Op.shift
  rw [if_neg hneg]
  show Result.ok (Value.int .i64 ((m : Int).fdiv (2 ^ (min (n : Int).toNat 64)))) w = _
  congr 2
  rw [Int.fdiv_eq_ediv_of_nonneg _ (by exact Int.le_of_lt (Int.pow_pos (by decide)))]
  simp only [Int.toNat_natCast]
  rw [Nat.min_eq_left hn, Int.natCast_ediv, Int.natCast_pow]; rfl
end Go.Proofs.Ytomplpdeeomehaa

/- More rules: tuples, max and min of ints, data put together. No program is named. -/
namespace Go.Proofs.Ytomplpdeeomehaa
set_option linter.unusedVariables false
set_option linter.unusedSimpArgs false
open Go.RowKit
section
variable {P : Program} {N : Nat} {F : FE} {As L L0 : List SA} {o : Oper} {x y z : Operand} {v : Value}
theorem Y.extract {i : Nat} {vs : Array Value} (ho : o.op = .extract x i) (hx : evO F x = some (.tuple vs)) (hv : vs[i]? = some v) : Yld P N o F As v := fun a w ha _ => by
  unfold execOp; rw [ho]
  replace hx := ha.eval hx
  generalize a.eval = ρ at hx ⊢
  simp [hx, Instr.extract, hv, go_sem]
theorem Y.minI {m n : Int} {at' : Array TypeId} (ho : o.op = .call { callee := .builtin .min, args := #[x, y], argTypes := at' }) (hx : evO F x = some (vI m)) (hy : evO F y = some (vI n)) : Yld P N o F As (vI (min m n)) := fun a w ha hw => by
  unfold execOp; rw [ho]
  replace hx := ha.eval hx
  replace hy := ha.eval hy
  generalize a.eval = ρ at hx hy ⊢
  simp [resolve, invoke, builtin, hx, hy, Builtin.min_, Builtin.min2, Result.andThen, Oper.upon, go_sem]
  split <;> omega
theorem Y.maxI {m n : Int} {at' : Array TypeId} (ho : o.op = .call { callee := .builtin .max, args := #[x, y], argTypes := at' }) (hx : evO F x = some (vI m)) (hy : evO F y = some (vI n)) : Yld P N o F As (vI (max m n)) := fun a w ha hw => by
  unfold execOp; rw [ho]
  replace hx := ha.eval hx
  replace hy := ha.eval hy
  generalize a.eval = ρ at hx hy ⊢
  simp [resolve, invoke, builtin, hx, hy, Builtin.max_, Builtin.max2, Result.andThen, Oper.upon, go_sem]
  split <;> omega
theorem Y.negI {t : TypeId} {n : Int} (ho : o.op = .unOp .neg t x) (hx : evO F x = some (vI n)) (h1 : -9223372036854775808 ≤ -n) (h2 : -n ≤ 9223372036854775807) : Yld P N o F As (vI (-n)) := fun a w ha _ => by
  unfold execOp; rw [ho]
  replace hx := ha.eval hx
  generalize a.eval = ρ at hx ⊢
  have := wrap_i64 (-n) h1 h2
  simp [hx, Op.unary, Op.intArith, go_sem]
  simpa using this
end
theorem br_mulI {m n : Int} (h1 : -9223372036854775808 ≤ m * n) (h2 : m * n ≤ 9223372036854775807) : BR .mul .i64 m .i64 n (.int .i64 (m * n)) := fun P w t => by
  simp [binOp, Op.intArith, go_sem]; exact wrap_i64 _ h1 h2
theorem tdiv_le {m n : Int} (h : 0 < n) (h1 : -9223372036854775808 ≤ m) (h2 : m ≤ 9223372036854775807) : -9223372036854775808 ≤ m.tdiv n ∧ m.tdiv n ≤ 9223372036854775807 := by
  have h3 : (m.tdiv n).natAbs ≤ m.natAbs := by rw [Int.natAbs_tdiv]; exact Nat.div_le_self _ _
  rcases Int.le_total 0 m with h0 | h0
  · have : 0 ≤ m.tdiv n := Int.tdiv_nonneg h0 (by omega)
    omega
  · have h4 : 0 ≤ (-m).tdiv n := Int.tdiv_nonneg (by omega) (by omega)
    rw [Int.neg_tdiv] at h4
    omega
theorem br_quoI {m n : Int} (h : 0 < n) (h1 : -9223372036854775808 ≤ m) (h2 : m ≤ 9223372036854775807) : BR .quo .i64 m .i64 n (.int .i64 (m.tdiv n)) := fun P w t => by
  have : ¬ (n = 0) := by omega
  simp [binOp, Op.intDiv, this, go_sem]
  exact wrap_i64 _ (tdiv_le h h1 h2).1 (tdiv_le h h1 h2).2
theorem br_remI {m n : Int} (h : n ≠ 0) : BR .rem .i64 m .i64 n (.int .i64 (m.tmod n)) := fun P w t => by
  simp [binOp, Op.intDiv, h, go_sem]
theorem br_rem16 {x y : UInt16} (h : y ≠ 0) : BR .rem .u16 x.toNat .u16 y.toNat (v16 (x % y)) := fun P w t => by
  have h0 : y.toNat ≠ 0 := fun e => h (UInt16.toNat_inj.1 e)
  simp [binOp, Op.intDiv, h0, go_sem]
  try rw [Int.tmod_eq_emod_of_nonneg (by omega)]
  try rfl
/-- differences of uint64s that were int64s -/
theorem br_subU {a b : Int} : BR .sub .u64 (a % 18446744073709551616) .u64 (b % 18446744073709551616) (.int .u64 ((a - b) % 18446744073709551616)) := fun P w t => by
  simp [binOp, Op.intArith, go_sem, wrap_u64]
theorem allOne {l : List Value} (h : l.all (·.oneCell') = true) : ∀ v ∈ l, v.oneCell' = true := List.all_eq_true.1 h
/-- '-k & 3' -/
theorem br_negand3 {k : Nat} (h : k < 65536) : BR .and .i64 (-(k : Int)) .i64 3 (vN ((4 - k % 4) % 4)) := fun P w t => by
  show Result.ok (Value.int .i64 (IntKind.i64.wrap ((BitVec.ofInt 64 (-(k : Int)) &&& BitVec.ofInt 64 3).toNat : Nat))) w = _
  have e : (BitVec.ofInt 64 (-(k : Int)) &&& BitVec.ofInt 64 3).toNat = (4 - k % 4) % 4 := by
    rw [BitVec.toNat_and, BitVec.toNat_ofInt, show (BitVec.ofInt 64 3).toNat = 2 ^ 2 - 1 from rfl, Nat.and_two_pow_sub_one_eq_mod]
    omega
  rw [e, wrap_i64 _ (by omega) (by omega)]
/-- a piece of a slice that is read -/
theorem Rd.cut {w : World} {sz n cap lo hi : Nat} {a : Option Addr} {cs : List Value} (h : Rd w sz (.slice a n cap) n cs) (h1 : lo ≤ hi) (h2 : hi ≤ n) : Rd w sz (cutV a cap lo hi sz) (hi - lo) ((cs.drop (lo * sz)).take ((hi - lo) * sz)) :=
  (h.drop (k := lo) (by omega)).take (k := hi - lo) (by omega)
section
variable {P : Program} {As : List SA} {A : SA}
theorem Src.cut {sz n cap lo hi tx e' : Nat} {a : Option Addr} {cs : List Value} (hA : Reads A sz (.slice a n cap) n cs) (hk : P.underlying tx = some (.slice e')) (h : In A As) (h1 : lo ≤ hi) (h2 : hi ≤ n) :
    ∀ w, Holds As w → Src P sz tx (cutV a cap lo hi sz) (hi - lo) ((cs.drop (lo * sz)).take ((hi - lo) * sz)) w := fun w hw => by
  obtain ⟨O, R, hp⟩ := hw A h
  exact ((hA w O R hp).cut h1 h2).src hk
theorem Src.cut8 {n cap lo hi tx e' : Nat} {a : Option Addr} {l : List UInt8} (hA : Reads A 1 (.slice a n cap) n (l.map v8)) (hk : P.underlying tx = some (.slice e')) (h : In A As) (h1 : lo ≤ hi) (h2 : hi ≤ n) :
    ∀ w, Holds As w → Src P 1 tx (cutV a cap lo hi 1) (hi - lo) (((l.drop lo).take (hi - lo)).map v8) w := by
  have := Src.cut (P := P) (As := As) hA hk h h1 h2
  simpa [List.map_take, List.map_drop] using this
end
section
variable {As : List SA} {A : SA} {v : Value}
theorem Cel.rds0 {sz n cap : Nat} {g off : Nat} {cs : List Value} (h : In (SA.rds sz (.slice (some ⟨g, off, none⟩) n cap) n cs) As) (hv : cs[0]? = some v) : Cel As ⟨g, off, none⟩ v := Cel.rdsB (j := 0) h hv
theorem Cel.owns0 {e sz n cap : Nat} {g off : Nat} {cs : List Value} (h : In (SA.owns e sz (.slice (some ⟨g, off, none⟩) n cap) n cs) As) (hv : cs[0]? = some v) : Cel As ⟨g, off, none⟩ v := Cel.owns (j := 0) h hv
end
/-- a piece of bytes that are read, beside the whole -/
theorem Ent.cutRds2 {L : List SA} {n cap lo hi : Nat} {a : Option Addr} {l : List UInt8} (h1 : lo ≤ hi) (h2 : hi ≤ n) :
    Ent (SA.rds 1 (.slice a n cap) n (l.map v8) :: L) (SA.rds 1 (cutV a cap lo hi 1) (hi - lo) (((l.drop lo).take (hi - lo)).map v8) :: SA.rds 1 (.slice a n cap) n (l.map v8) :: L) := by
  refine (Ent.dup Dup.rds).trans (Ent.imp fun w O R h => ⟨O, R, ⟨fun hn q hq => h.1 (by omega) q (own_cut (k := lo) (sz := 1) q ?_), ?_⟩, fun _ h => h, fun _ h => .inr h⟩)
  · revert hq
    unfold cutV
    generalize (if cap = lo then a else a.map (·.add (lo * 1))) = a'
    cases a' <;> simp [own]
  · have := h.2.cut h1 h2
    simpa [List.map_take, List.map_drop] using this
end Go.Proofs.Ytomplpdeeomehaa

/- Lending: a function that only reads is handed what is owned. No program is named. -/
namespace Go.Proofs.Ytomplpdeeomehaa
set_option linter.unusedVariables false
set_option linter.unusedSimpArgs false
open Go.RowKit
section
variable {P : Program} {N : Nat} {F : FE} {As Bs L L0 : List SA} {A B : SA} {w : World}
/-- B can be read where A is -/
def Lend1 (A B : SA) : Prop := ∀ w O R, A.p w O R → ∃ R', B.p w (fun _ => False) R' ∧ ∀ k, R' k → O k ∨ R k
theorem Lend1.same (h : Dup A) : Lend1 A A := fun w O R hp => ⟨R, h w O R hp, fun _ h => .inr h⟩
theorem Lend1.own {e sz n : Nat} {v : Value} {cs : List Value} : Lend1 (SA.owns e sz v n cs) (SA.rds sz v n cs) := fun w O R h => ⟨O, ⟨fun _ => h.1, h.2.rd⟩, fun _ h => .inl h⟩
theorem Lend1.rds {sz n : Nat} {v : Value} {cs : List Value} : Lend1 (SA.rds sz v n cs) (SA.rds sz v n cs) := Lend1.same Dup.rds
theorem Lend1.blk {b t : Nat} {cs : Array Value} : Lend1 (SA.blk b cs t) (SA.rblk b cs t) := fun w O R h => ⟨O, h, fun _ h => .inl h⟩
inductive Lend : List SA → List SA → Prop
  | nil : Lend [] []
  | cons {A B : SA} {As Bs : List SA} : Lend1 A B → Lend As Bs → Lend (A :: As) (B :: Bs)
theorem Lend.all (h : Lend As Bs) : Lend1 (SA.all As) (SA.all Bs) := by
  induction h with
  | nil => exact fun w O R _ => ⟨fun _ => False, trivial, fun _ h => h.elim⟩
  | cons h1 _ ih =>
    rintro w O R ⟨O1, R1, O2, R2, hA, hL, r1, r2, r3, r4⟩
    obtain ⟨R1', hA', e1⟩ := h1 _ _ _ hA
    obtain ⟨R2', hL', e2⟩ := ih _ _ _ hL
    refine ⟨fun k => R1' k ∨ R2' k, ⟨fun _ => False, R1', fun _ => False, R2', hA', hL', fun _ h => h.elim, fun _ h => h.elim, fun _ h => .inl h, fun _ h => .inr h⟩, ?_⟩
    rintro k (h | h)
    · exact (e1 k h).elim (fun h => .inl (r1 k h).1) (fun h => .inr (r3 k h))
    · exact (e2 k h).elim (fun h => .inl (r2 k h).1) (fun h => .inr (r4 k h))
/-- owned alone -/
def OO (A : SA) : Prop := ∀ w O R, A.p w O R → A.p w O (fun _ => False)
theorem OO.owns {e sz n : Nat} {v : Value} {cs : List Value} : OO (SA.owns e sz v n cs) := fun _ _ _ h => h
theorem OO.blk {b t : Nat} {cs : Array Value} : OO (SA.blk b cs t) := fun _ _ _ h => h
theorem OO.all : ∀ Ln : List SA, (∀ A, In A Ln → OO A) → OO (SA.all Ln)
  | [], _ => fun _ _ _ _ => trivial
  | A :: Ln, h => fun w O R ⟨O1, R1, O2, R2, hA, hL, r1, r2, r3, r4⟩ =>
    ⟨O1, fun _ => False, O2, fun _ => False, h A In.here w O1 R1 hA, OO.all Ln (fun B hB => h B (In.there hB)) w O2 R2 hL, fun k hk => ⟨(r1 k hk).1, (r1 k hk).2.1, id⟩, fun k hk => ⟨(r2 k hk).1, id⟩, fun _ h => h, fun _ h => h⟩
/-- it can be come back to -/
def SA.lease (Z : SA) : SA := ⟨fun w O R => ∃ O0 R0, Z.p w O0 R0 ∧ (∀ k, O0 k → R k) ∧ (∀ k, R0 k → R k), fun {w w' O R} ⟨O0, R0, h, h1, h2⟩ hg => ⟨O0, R0, Z.loc h (hg.mono fun k _ hk => .inr (hk.elim (h1 k) (h2 k))), h1, h2⟩⟩
theorem St.all {L : List SA} : St L w ↔ St [SA.all L] w := by
  constructor
  · intro h
    have := (Ent.doall L).st (by rw [List.append_nil]; exact h)
    exact this
  · intro h
    have := (Ent.unall (L := []) L).st h
    rwa [List.append_nil] at this
theorem Fn.lend {f : FuncId} {args : List Value} {R : Value → List SA → Prop} (hl : Lend As Bs) (h : Fn P f args Bs (fun v L' => ∃ Ln, R v Ln ∧ (∀ A, In A Ln → OO A) ∧ L' = Ln ++ Bs)) (L : List SA) :
    Fn P f args (As ++ L) (fun v L' => ∃ Ln, R v Ln ∧ L' = Ln ++ (As ++ L)) := fun X w hw => by
  -- Z: all there is
  have hZ : St [SA.star (SA.all As) (SA.star X (SA.all L))] w := by
    have h1 : Ent (X :: (As ++ L)) [SA.star (SA.all As) (SA.star X (SA.all L))] := by
      have e1 : Ent (X :: (As ++ L)) (X :: SA.all As :: L) := Ent.under _ (Ent.doall As)
      have e2 : Ent (X :: SA.all As :: L) (SA.all As :: X :: L) := Ent.swap
      have e3 : Ent (SA.all As :: X :: L) (SA.all As :: X :: [SA.all L]) := Ent.under _ (Ent.under _ (by have := Ent.doall (L := []) L; rwa [List.append_nil] at this))
      exact e1.trans (e2.trans (e3.trans ((Ent.unstarE.under _).trans Ent.unstarE)))
    exact h1.st hw
  generalize hz : SA.star (SA.all As) (SA.star X (SA.all L)) = Z at hZ
  obtain ⟨O0, R0, ⟨O1, R1, O2, R2, hA, -, r1, r2, r3, r4⟩, hb⟩ := hZ
  have hZp : Z.p w O1 R1 := hA
  have hlent : ∃ R', (SA.all Bs).p w (fun _ => False) R' ∧ ∀ k, R' k → O1 k ∨ R1 k := by
    rw [← hz] at hZp
    obtain ⟨O3, R3, O4, R4, hAs, -, q1, -, q3, -⟩ := hZp
    obtain ⟨R', g1, g2⟩ := hl.all _ _ _ hAs
    exact ⟨R', g1, fun k hk => (g2 k hk).elim (fun h => .inl (q1 k h).1) (fun h => .inr (q3 k h))⟩
  obtain ⟨R', hB, hR'⟩ := hlent
  have hbd : ∀ k, O1 k ∨ R1 k → k < w.heap.size := fun k hk => hb k (hk.imp (fun h => (r1 k h).1) (fun h => r3 k h))
  have hst : St (SA.lease Z :: Bs) w := by
    have : St [SA.star (SA.lease Z) (SA.all Bs)] w := ⟨fun _ => False, fun k => O1 k ∨ R1 k, ⟨fun _ => False, fun k => O1 k ∨ R1 k, fun _ => False, fun _ => False,
      ⟨fun _ => False, fun k => O1 k ∨ R1 k, fun _ => False, R', ⟨O1, R1, hA, fun _ h => .inl h, fun _ h => .inr h⟩, hB, fun _ h => h.elim, fun _ h => h.elim, fun _ h => h, hR'⟩, trivial, fun _ h => h.elim, fun _ h => h.elim, fun _ h => h, fun _ h => h.elim⟩, fun k hk => hk.elim (fun h => h.elim) (hbd k)⟩
    have h2 := Ent.starE.st this
    have h3 := ((Ent.unall (L := []) Bs).under _).st h2
    rwa [List.append_nil] at h3
  refine (h (SA.lease Z) w hst).mono ?_
  rintro e w' ⟨v, L', rfl, ⟨Ln, hR, hoo, rfl⟩, hw'⟩
  refine ⟨v, Ln ++ (As ++ L), rfl, ⟨Ln, hR, rfl⟩, ?_⟩
  -- the new ones and the lease
  have h1 : St [SA.lease Z, SA.all Ln] w' := by
    have e : Ent (SA.lease Z :: (Ln ++ Bs)) [SA.lease Z, SA.all Ln] := Ent.under _ ((Ent.doall Ln).trans (Ent.under _ Ent.nil))
    exact e.st hw'
  obtain ⟨O, R, ⟨O5, R5, O6, R6, ⟨O7, R7, hz7, g1, g2⟩, ⟨O8, R8, O9, R9, hn, -, s1, -, s3, -⟩, q1, q2, q3, q4⟩, hb'⟩ := h1
  have hn' := OO.all Ln hoo _ _ _ hn
  have h2 : St [SA.star (SA.all Ln) Z] w' := by
    refine ⟨fun k => O8 k ∨ O7 k, R7, ⟨fun k => O8 k ∨ O7 k, R7, fun _ => False, fun _ => False, ⟨O8, fun _ => False, O7, R7, hn', hz7, fun k hk => ⟨.inl hk, fun e => ?_, fun e => ?_⟩, fun k hk => ⟨.inr hk, id⟩, fun _ h => h.elim, fun _ h => h⟩, trivial, fun k hk => ⟨hk, id, id⟩, fun _ h => h.elim, fun _ h => h, fun _ h => h.elim⟩, ?_⟩
    · exact (q2 k (s1 k hk).1).2 (g1 k e)
    · exact (q2 k (s1 k hk).1).2 (g2 k e)
    · rintro k ((hk | hk) | hk)
      · exact hb' k (.inl (q2 k (s1 k hk).1).1)
      · exact hb' k (.inr (q3 k (g1 k hk)))
      · exact hb' k (.inr (q3 k (g2 k hk)))
  have e : Ent [SA.star (SA.all Ln) Z] (X :: (Ln ++ (As ++ L))) := by
    refine Ent.starE.trans ?_
    rw [← hz]
    refine (Ent.under _ Ent.starE).trans ?_
    refine (Ent.under _ (Ent.under _ Ent.starE)).trans ?_
    refine Ent.cons (A := X) (Pull.there (Pull.there Pull.here)) ?_
    refine (Ent.unall Ln).trans ?_
    have e1 : Ent [SA.all As, SA.all L] (As ++ L) := by
      refine (Ent.unall As).trans ?_
      have e0 : ∀ M : List SA, Ent (M ++ [SA.all L]) (M ++ L) := fun M => by
        induction M with
        | nil => have := Ent.unall (L := []) L; rwa [List.append_nil] at this
        | cons B M ih => exact ih.under B
      exact e0 As
    have e2 : ∀ M : List SA, Ent (M ++ [SA.all As, SA.all L]) (M ++ (As ++ L)) := fun M => by
      induction M with
      | nil => exact e1
      | cons B M ih => exact ih.under B
    exact e2 Ln
  exact e.st h2
/-- nothing new is handed back -/
theorem Fn.lend0 {f : FuncId} {args : List Value} {φ : Value → Prop} (hl : Lend As Bs) (h : Fn P f args Bs (fun v L' => φ v ∧ L' = Bs)) (L : List SA) : Fn P f args (As ++ L) (fun v L' => φ v ∧ L' = As ++ L) :=
  (Fn.lend (R := fun v Ln => φ v ∧ Ln = []) hl (h.mono fun v L' ⟨h1, h2⟩ => ⟨L', Ent.refl, [], ⟨h1, rfl⟩, fun A hA => (by cases hA), by rw [h2]; rfl⟩) L).mono fun v L' ⟨Ln, ⟨h1, h2⟩, h3⟩ => ⟨L', Ent.refl, h1, by rw [h3, h2]; rfl⟩
end
end Go.Proofs.Ytomplpdeeomehaa

/- Equality of structs of scalars. No program is named. -/
namespace Go.Proofs.Ytomplpdeeomehaa
set_option linter.unusedVariables false
set_option linter.unusedSimpArgs false
open Go.RowKit
section
variable {P : Program} {N : Nat} {F : FE} {As L L0 : List SA} {o : Oper} {x y z : Operand} {v : Value}
/-- these two of type t are equal, or not -/
def EqV (P : Program) (t : TypeId) (a b : Value) (r : Bool) : Prop := ∀ d w, (Op.equalIn (d + 1) t a b).run P w = .ok r w
theorem EqV.int {t : TypeId} {k k' : IntKind} {a b : Int} (h : P.underlying t = some (.int k')) : EqV P t (.int k a) (.int k b) (a == b) := fun d w => run_equalIn_int w d t k k' a b h
theorem EqV.bool {t : TypeId} {a b : Bool} (h : P.underlying t = some .bool) : EqV P t (.bool a) (.bool b) (a == b) := fun d w => run_equalIn_bool w d t a b h
theorem EqV.str {t : TypeId} {a b : ByteArray} (h : P.underlying t = some .string) : EqV P t (.string a) (.string b) (a.toList == b.toList) := fun d w => run_equalIn_string w d t a b h
inductive FEq (P : Program) (xs ys : Array Value) : List (Bool × Nat × Nat) → Bool → Prop
  | nil : FEq P xs ys [] true
  | cons {t off : Nat} {a b : Value} {r1 r2 : Bool} {l : List (Bool × Nat × Nat)} : Program.isSc P t = true → xs[off]? = some a → ys[off]? = some b → EqV P t a b r1 → FEq P xs ys l r2 → FEq P xs ys ((false, t, off) :: l) (r1 && r2)
theorem part_sc {t off : Nat} {xs : Array Value} {a : Value} (hs : Program.isSc P t = true) (h : xs[off]? = some a) (w : World) : (part t xs off).run P w = .ok a w := by
  unfold Program.isSc at hs
  cases hq : P.underlying t with
  | none => simp [hq] at hs
  | some d => cases d <;> simp [hq] at hs <;> simp [part, isAgg, run_underlying hq, h, go_sem]
theorem FEq.run {xs ys : Array Value} (d : Nat) (w : World) : ∀ (fs : List Field) (l : List (Bool × Nat × Nat)) (r : Bool), fs.map (fun f => (f.name == "_", f.type, f.offset)) = l → FEq P xs ys l r → (Op.eqFields (d + 1) xs ys fs).run P w = .ok r w
  | [], _, _, rfl, h => by cases h; simp [Op.eqFields, go_sem]
  | f :: fs, _, _, e, h => by
    subst e
    simp only [List.map_cons] at h
    generalize hn : (f.name == "_") = nm at h
    cases h with
    | cons h1 h2 h3 h4 h5 =>
      have hn' : f.name ≠ "_" := by simpa using hn
      have ih := FEq.run d w fs _ _ rfl h5
      simp only [Op.eqFields, hn', ne_eq, not_false_eq_true, if_true, Sem.run_bind, part_sc h1 h2, part_sc h1 h3, Result.andThen_ok, h4 d w]
      rename_i r1 r2
      cases r1
      · simp [go_sem]
      · simpa using ih
theorem Y.cmpSt {t yt : Nat} {xs ys : Array Value} {l : List (Bool × Nat × Nat)} {r neg : Bool} (ho : o.op = .binOp (if neg then .neq else .eql) t x y yt) (hf : P.underlying t = some (.struct (P.fieldsOf t))) (hp : P.stoodInHeld t = false) (hg : P.eqGuardType P.depth t = false)
    (hl : (P.fieldsOf t).toList.map (fun f => (f.name == "_", f.type, f.offset)) = l) (hx : evO F x = some (.agg xs)) (hy : evO F y = some (.agg ys)) (h : FEq P xs ys l r) : Yld P N o F As (.bool (if neg then !r else r)) := fun a w ha _ => by
  unfold execOp; rw [ho]
  replace hx := ha.eval hx
  replace hy := ha.eval hy
  generalize a.eval = ρ at hx hy ⊢
  have e : (Op.equalIn 10000 t (.agg xs) (.agg ys)).run P w = .ok r w := by rw [run_equalIn_struct w 9999 t xs ys hf hp]; exact FEq.run 9998 w _ _ _ hl h
  cases neg
  · simp only [Bool.false_eq_true, if_false, hx, hy, Sem.run_bind, run_eqGuard_agg w .eql t x y _ _ hg, Result.andThen_ok, run_eql_struct, e, Sem.run_pure]
  · simp only [if_true, hx, hy, Sem.run_bind, run_eqGuard_agg w .neq t x y _ _ hg, Result.andThen_ok, run_neq_struct, e, Sem.run_pure]
theorem Y.eqSt {t yt : Nat} {xs ys : Array Value} {l : List (Bool × Nat × Nat)} {r : Bool} (ho : o.op = .binOp .eql t x y yt) (hf : P.underlying t = some (.struct (P.fieldsOf t))) (hp : P.stoodInHeld t = false) (hg : P.eqGuardType P.depth t = false)
    (hl : (P.fieldsOf t).toList.map (fun f => (f.name == "_", f.type, f.offset)) = l) (hx : evO F x = some (.agg xs)) (hy : evO F y = some (.agg ys)) (h : FEq P xs ys l r) : Yld P N o F As (.bool r) := Y.cmpSt (neg := false) ho hf hp hg hl hx hy h
theorem Y.neSt {t yt : Nat} {xs ys : Array Value} {l : List (Bool × Nat × Nat)} {r : Bool} (ho : o.op = .binOp .neq t x y yt) (hf : P.underlying t = some (.struct (P.fieldsOf t))) (hp : P.stoodInHeld t = false) (hg : P.eqGuardType P.depth t = false)
    (hl : (P.fieldsOf t).toList.map (fun f => (f.name == "_", f.type, f.offset)) = l) (hx : evO F x = some (.agg xs)) (hy : evO F y = some (.agg ys)) (h : FEq P xs ys l r) : Yld P N o F As (.bool (!r)) := Y.cmpSt (neg := true) ho hf hp hg hl hx hy h
end
end Go.Proofs.Ytomplpdeeomehaa

/- What slices.Delete does to a slice of one's own; a round of yield as one step. No program is named. -/
namespace Go.Proofs.Ytomplpdeeomehaa
set_option linter.unusedVariables false
set_option linter.unusedSimpArgs false
open Go.RowKit
section
variable {κ : Ctx} {P : Program} {N : Nat} {F : FE} {As L L0 : List SA} {A : SA} {o : Oper} {x y z u : Operand} {v : Value}
/-- s[k:h:m] -/
theorem Y.slice3 {t e sz n cap k h m : Nat} {a : Option Addr} (ho : o.op = .slice t x (some y) (some z) (some u)) (hu : P.underlying t = some (.slice e)) (hs : (P.info? e).map (·.size) = some sz) (hx : evO F x = some (.slice a n cap)) (hy : evO F y = some (vN k)) (hz : evO F z = some (vN h)) (hm : evO F u = some (vN m)) (h1 : k ≤ h) (h2 : h ≤ m) (h3 : m ≤ cap) :
    Yld P N o F As (.slice (if m = k then a else a.map (·.add (k * sz))) (h - k) (m - k)) := fun a' w ha hw => by
  unfold execOp; rw [ho]
  replace hx := ha.eval hx
  replace hy := ha.eval hy
  replace hz := ha.eval hz
  replace hm := ha.eval hm
  generalize a'.eval = ρ at hx hy hz hm ⊢
  obtain ⟨inf, hinf, he⟩ := Option.map_eq_some_iff.1 hs
  subst he
  simp [hx, hy, hz, hm, Instr.sliceAt, Instr.slice, Instr.sliceBounds, Instr.sliceBound, asIntOf, run_underlying hu, sizeOf, typeInfo, hinf, go_sem, h1, h2, h3]
/-- 'append(s[:i], s[j:]...)' -/
theorem X.appendCut {t tx e e' sz bytes n cap g off i j : Nat} {z : Value} {cs : List Value} (ho : o.op = .call { callee := .builtin .append, args := #[x, y], argTypes := #[t, tx] }) (E : Elt P t e sz bytes z) (hk : P.underlying tx = some (.slice e'))
    (hx : evO F x = some (.slice (some ⟨g, off, none⟩) i cap)) (hp : Pull (SA.owns e sz (.slice (some ⟨g, off, none⟩) n cap) n cs) L L0) (hy : evO F y = some (cutV (some ⟨g, off, none⟩) cap j n sz)) (hij : i ≤ j) (hjn : j ≤ n) (hnc : n ≤ cap) :
    Eff P N o F L (fun v L' => v = .slice (some ⟨g, off, none⟩) (i + (n - j)) cap ∧ L' = SA.owns e sz (.slice (some ⟨g, off, none⟩) (i + (n - j)) cap) (i + (n - j)) (cs.take (i * sz) ++ cs.drop (j * sz)) :: L0) := by
  refine ⟨by rw [ho]; simp, fun Y a w ha hw K Q hK => ?_⟩
  unfold Oper.wp execOp; rw [ho]
  replace hx := ha.eval hx
  replace hy := ha.eval hy
  have hst := (Pull.there (B := Y) hp).st hw
  have hO := hst.isOwn
  have hsrc : Src P sz tx (cutV (some ⟨g, off, none⟩) cap j n sz) (n - j) (cs.drop (j * sz)) w := (hO.rd.drop hjn).src hk
  have hT : Own w e sz (.slice (some ⟨g, off, none⟩) i cap) i (cs.take (i * sz)) := hO.take (by omega)
  obtain ⟨w', hrun, r1, r2⟩ := run_app_fits (P := P) (ty := o.type) E hT hsrc (by omega)
  generalize a.eval = ρ at hx hy ⊢
  simp [resolve, invoke, builtin, hx, hy, hrun, Result.andThen, Oper.upon]
  exact hK _ _ _ ⟨rfl, rfl⟩ (St.up1 (hst.frS r2 fun O R hA => ⟨fun k hk => hA.1 k (by simpa [own] using hk), O, R, ⟨fun k hk => hA.1 k (by simpa [own] using hk), r1⟩, fun k hk => .inl hk, fun k hk => .inr (.inl hk)⟩))
/-- 'clear(s[m:k])', behind the end of s -/
theorem X.clearTail {t e sz bytes m k cap g off : Nat} {z : Value} {cs : List Value} (ho : o.op = .call { callee := .builtin .clear, args := #[x], argTypes := #[t] }) (E : Elt P t e sz bytes z)
    (hx : evO F x = some (cutV (some ⟨g, off, none⟩) cap m k sz)) (hp : Pull (SA.owns e sz (.slice (some ⟨g, off, none⟩) m cap) m cs) L L0) (h1 : m ≤ k) (h2 : k ≤ cap) (h3 : m < cap) :
    Eff P N o F L (fun _ L' => L' = SA.owns e sz (.slice (some ⟨g, off, none⟩) m cap) m cs :: L0) := by
  refine ⟨by rw [ho]; simp, fun Y a w ha hw K Q hK => ?_⟩
  unfold Oper.wp execOp; rw [ho]
  replace hx := ha.eval hx
  have hst := (Pull.there (B := Y) hp).st hw
  have hO := hst.isOwn
  have hcv : cutV (some ⟨g, off, none⟩) cap m k sz = .slice (some ⟨g, off + m * sz, none⟩) (k - m) (cap - m) := by
    unfold cutV; rw [if_neg (by omega)]; simp [Addr.add_lit]
  rw [hcv] at hx
  obtain ⟨arr, hb, hsz⟩ : ∃ arr, Blk w g arr e ∧ off + cap * sz ≤ arr.size := by
    rcases hO.val with ⟨hv, _⟩ | ⟨g', off', cap', arr, hv, hb1, _, _, e3, _⟩
    · cases hv
    · cases hv
      exact ⟨arr, hb1, e3⟩
  have hmul : m * sz + (k - m) * sz = k * sz := by rw [← Nat.add_mul]; congr 1; omega
  have hkc : k * sz ≤ cap * sz := Nat.mul_le_mul_right _ h2
  have hrun := run_clear_own (P := P) (ty := o.type) (cap := cap - m) (n := k - m) E hb (off := off + m * sz) (by omega) rfl
  have hl : (Builtin.zeroCells z.cells (k - m)).toList.length = (k - m) * sz := by
    obtain ⟨i, hi, hz0, rfl, rfl⟩ := info_parts E.hi
    rw [Array.length_toList, size_zeroCells, E.hz]
  have hfin := hO.beyond (Builtin.zeroCells z.cells (k - m)).toList (off + m * sz) (Nat.le_refl _) (by rw [hl]; omega)
  generalize a.eval = ρ at hx ⊢
  simp [resolve, invoke, builtin, hx, hrun, Result.andThen, Oper.upon]
  refine hK _ _ _ rfl (St.up1 (hst.frS (S := [g]) (Fr.setCells _ _ _ (Fr.refl _ _) (by simp)) fun O R hA => ⟨fun k hk => hA.1 k (by simpa [own] using hk), O, R, ⟨fun k hk => hA.1 k (by simpa [own] using hk), hfin⟩, fun k hk => .inl hk, fun k hk => .inr (.inl hk)⟩))
/-- a round, as one step -/
theorem X.yieldB {l n i : Nat} {arg : Nat → List Value} {S : Nat → SA} {Sx : SA} {f : Operand} {args : List Operand} {at' : Array TypeId} (hY : YS P l n arg S Sx) (ho : o.op = .call { callee := .value f, args := args.toArray, argTypes := at' })
    (hf : evO F f = some (yieldV l)) (hv : evA F args = some (arg i)) (hi : i < n) (hp : Pull (S i) L L0) :
    EffI P N o F L (fun v L' => ∃ bo, v = .bool bo ∧ L' = (cond bo (S (i + 1)) Sx) :: L0) := by
  intro r Y a w ha hw K Q hK
  refine X.yield hY ho hf hv hi hp r Y a w ha hw K Q fun v L' w' hR hw' => hK v L' w' ?_ hw'
  rcases hR with ⟨rfl, rfl⟩ | ⟨rfl, rfl⟩
  · exact ⟨true, rfl, rfl⟩
  · exact ⟨false, rfl, rfl⟩
/-- no way out of the loop -/
theorem Ent.self_app {L L' : List SA} (h : Ent L L') : Ent L (L' ++ []) := by rw [List.append_nil]; exact h
/-- a slice literal of one struct -/
theorem X.litD {α : Type} [Dat α] {t e sz : Nat} (x : α) {p : Operand} (ho : o.op = .buildSlice t 1 #[(0, p)]) (hu : P.underlying t = some (.slice e)) (hz : ((P.info? e).bind fun i => i.zero.map fun z => (i.size, z.cells.size)) = some (sz, sz)) (hp : evO F p = some (.agg (Dat.c x).toArray)) (hs : Dat.sz α = sz) (hn : sz ≤ 16777216) :
    Eff P N o F L (fun v L' => ∃ g, v = .slice (some ⟨g, 0, none⟩) 1 1 ∧ L' = SA.owns e sz (.slice (some ⟨g, 0, none⟩) 1 1) 1 (Dat.c x) :: L) :=
  X.litA (bytes := 0) (z := .nilFunc) (vs := [.agg (Dat.c x).toArray]) (cells := Dat.c x) (parts := [(0, p)]) ho hu hz (by simp [evA, hp]) rfl rfl (by omega) (hs ▸ Dat.pos) (by simp [maxLen]) (by simp [Value.cells, Dat.len, hs]) (by simp [Value.cells]) (List.all_eq_true.2 (Dat.one x))
/-- with others beside -/
theorem Ent.app {L1 L2 L : List SA} (h : Ent L1 L2) : Ent (L1 ++ L) (L2 ++ L) := by
  refine (Ent.doall L1).trans (Ent.trans (Ent.imp fun w O R hp => ?_) (Ent.unall L2))
  exact h w O R hp
theorem Ent.app2 {A B C D : SA} {L : List SA} (h : Ent [A, B, C] [D]) : Ent (A :: B :: C :: L) (D :: L) := Ent.app h
theorem Ent.rdssDrop {gs hs : List G} {L L1 : List SA} (hp : Pull (SA.rdss gs) L L1) (h : ∀ q ∈ hs, q ∈ gs) : Ent L (SA.rdss hs :: L1) := hp.ent.trans ((Ent.rdss_sub h).trans (Ent.under _ Ent.drop))
theorem Ent.addEl {α : Type} [Dat α] {x : α} {ys : List α} {L L1 L2 : List SA} (h1 : Pull (SA.rdss (ys.flatMap Dat.g)) L L1) (h2 : Pull (SA.dat x) L1 L2) : Ent L (SA.rdss ((ys ++ [x]).flatMap Dat.g) :: L2) := by
  rw [List.flatMap_append, List.flatMap_singleton]
  exact h1.ent.trans ((h2.ent.under _).trans Ent.rdssApp)
theorem Ent.mkOwn {α : Type} [Dat α] {e sz n cap : Nat} {a : Option Addr} {l : List α} {cells : List Value} {L L1 L2 : List SA} (h1 : Pull (SA.owns e sz (.slice a n cap) n cells) L L1) (h2 : Pull (SA.rdss (l.flatMap Dat.g)) L1 L2) (hn : l.length = n) (hs : Dat.sz α = sz) (hc : Dat.cs l = cells) : Ent L (SA.dat (⟨a, cap, l⟩ : Sl α) :: L2) :=
  h1.ent.trans ((h2.ent.under _).trans (Ent.freeze.trans (Ent.mkSl hn hs hc)))
theorem Ent.hang {α : Type} [Dat α] {a : Option Addr} {cap : Nat} {l : List α} {L L1 : List SA} (hp : Pull (SA.dat (⟨a, cap, l⟩ : Sl α)) L L1) : Ent L (SA.rdss (l.flatMap Dat.g) :: SA.dat (⟨a, cap, l⟩ : Sl α) :: L1) :=
  hp.ent.trans (Ent.rdss_sub fun q hq => List.mem_cons_of_mem _ hq)
end
end Go.Proofs.Ytomplpdeeomehaa

/- Writing elements of a slice of one's own; more on data in cells. No program is named. -/
namespace Go.Proofs.Ytomplpdeeomehaa
set_option linter.unusedVariables false
set_option linter.unusedSimpArgs false
open Go.RowKit
def wr (cs : List Value) (j : Nat) (vs : List Value) : List Value := cs.take j ++ vs ++ cs.drop (j + vs.length)
theorem wr_get (cs vs : List Value) (j i : Nat) (h : j + vs.length ≤ cs.length) : (wr cs j vs)[i]? = if j ≤ i ∧ i < j + vs.length then vs[i - j]? else cs[i]? := by
  have h1 : (cs.take j).length = j := by rw [List.length_take]; omega
  unfold wr
  by_cases h2 : i < j
  · rw [List.append_assoc, List.getElem?_append_left (by omega), List.getElem?_take, if_pos h2, if_neg (by omega)]
  · by_cases h3 : i < j + vs.length
    · rw [List.getElem?_append_left (by rw [List.length_append]; omega), List.getElem?_append_right (by omega), h1, if_pos (by omega)]
    · rw [List.getElem?_append_right (by rw [List.length_append]; omega), List.getElem?_drop, List.length_append, h1, if_neg (by omega)]
      congr 1; omega
theorem wr_len (cs vs : List Value) (j : Nat) (h : j + vs.length ≤ cs.length) : (wr cs j vs).length = cs.length := by
  unfold wr; simp only [List.length_append, List.length_take, List.length_drop]; omega
theorem Own.within {w : World} {e sz g off n cap : Nat} {cs : List Value} (h : Own w e sz (.slice (some ⟨g, off, none⟩) n cap) n cs) (vs : List Value) (h1 : ∀ v ∈ vs, v.oneCell' = true) (j : Nat) (hj : j + vs.length ≤ n * sz) :
    Own (w.setCells g (off + j) vs) e sz (.slice (some ⟨g, off, none⟩) n cap) n (wr cs j vs) := by
  have hl := h.len
  refine ⟨by rw [wr_len _ _ _ (by omega)]; exact hl, fun v hv => ?_, ?_⟩
  · unfold wr at hv
    rcases List.mem_append.1 hv with hv | hv
    · rcases List.mem_append.1 hv with hv | hv
      · exact h.one v (List.mem_of_mem_take hv)
      · exact h1 v hv
    · exact h.one v (List.mem_of_mem_drop hv)
  rcases h.val with ⟨hv, _⟩ | ⟨g', off', cap', arr, hv, hb, h2, h3, h4, h5⟩
  · cases hv
  · cases hv
    have hle : n * sz ≤ cap * sz := Nat.mul_le_mul_right _ h2
    refine .inr ⟨g, off, cap, _, rfl, hb.setCells vs w arr (off + j), h2, h3, by rw [writeAt_size]; exact h4, ?_⟩
    apply List.ext_getElem?
    intro i
    have hw := writeAt_get vs arr (off + j) (off + i) (by omega)
    rw [wr_get _ _ _ _ (by omega), ← h5]
    simp only [List.getElem?_take, List.getElem?_drop, Array.getElem?_toList, hw]
    by_cases hi : i < n * sz
    · rw [if_pos hi, if_pos hi]
      by_cases hij : j ≤ i ∧ i < j + vs.length
      · rw [if_pos (by omega), if_pos hij]; congr 1; omega
      · rw [if_neg (by omega), if_neg hij]
    · rw [if_neg hi, if_neg hi, if_neg (by omega)]
section
variable {P : Program} {N : Nat} {F : FE} {As L L0 : List SA} {o : Oper} {x y z : Operand} {v : Value}
/-- several cells stored through a slice of one's own -/
theorem X.storeOwnA {t e sz n cap g off q j m : Nat} {cs : List Value} {vs : Array Value} (ho : o.op = .store t x y) (hs : (P.info? t).map (·.size) = some m) (hmm : vs.size = m) (hx : evO F x = some (.pointer (some ⟨g, q, none⟩))) (hq : q = off + j) (hy : evO F y = some (.agg vs)) (h1 : ∀ v ∈ vs.toList, v.oneCell' = true)
    (hp : Pull (SA.owns e sz (.slice (some ⟨g, off, none⟩) n cap) n cs) L L0) {cs' : List Value} (hj : j + m ≤ n * sz) (he' : wr cs j vs.toList = cs') : Eff P N o F L (fun _ L' => L' = SA.owns e sz (.slice (some ⟨g, off, none⟩) n cap) n cs' :: L0) := by
  refine ⟨by rw [ho]; simp, fun Y a w ha hw K Q hK => ?_⟩
  subst he'; subst hq; subst hmm
  unfold Oper.wp execOp; rw [ho]
  replace hx := ha.eval hx
  replace hy := ha.eval hy
  simp only [hx, hy]
  have hst := (Pull.there (B := Y) hp).st hw
  have hO := hst.isOwn
  obtain ⟨inf, hinf, he⟩ := Option.map_eq_some_iff.1 hs
  have hlv : vs.toList.length = vs.size := by simp
  obtain ⟨arr, hb, hsz⟩ : ∃ arr, Blk w g arr e ∧ off + n * sz ≤ arr.size := by
    rcases hO.val with ⟨hv, _⟩ | ⟨g', off', cap', arr, hv, hb1, h2, _, e3, _⟩
    · cases hv
    · cases hv
      have := Nat.mul_le_mul_right sz h2
      exact ⟨arr, hb1, by omega⟩
  have hrun := run_storeCells_cells (P := P) g (off + j) vs.toList 0 w (fun i hi => by rw [hb.cell]; simp at hi ⊢; omega) (fun i hi => hb.frozen _) h1
  have hall : (Instr.storeAt t (.pointer (some ⟨g, off + j, none⟩)) (.agg vs)).run P w = .ok () (w.setCells g (off + j) vs.toList) := by
    unfold Instr.storeAt Instr.sureAddr storeVar
    simp only [Nat.add_zero] at hrun
    simp [sizeOf, typeInfo, hinf, he, Value.cells, hrun, go_sem]
  generalize Instr.storeAt t _ _ = s at hall ⊢
  simp [hall, go_sem]
  have hfin := hO.within vs.toList h1 j (by omega)
  exact hK _ _ _ rfl (St.up1 (hst.frS (S := [g]) (Fr.setCells _ _ _ (Fr.refl _ _) (by simp)) fun O R hA => ⟨fun k hk => hA.1 k (by simpa [own] using hk), O, R, ⟨fun k hk => hA.1 k (by simpa [own] using hk), hfin⟩, fun k hk => .inl hk, fun k hk => .inr (.inl hk)⟩))
end
theorem wr_mid (a b c c' d : List Value) (h : c.length = c'.length) : wr (a ++ (b ++ c) ++ d) (a.length + b.length) c' = a ++ (b ++ c') ++ d := by
  unfold wr
  have e1 : a ++ (b ++ c) ++ d = (a ++ b) ++ (c ++ d) := by simp [List.append_assoc]
  rw [e1, ← List.length_append, List.take_left, ← h, show (a ++ b).length + c.length = ((a ++ b) ++ c).length by simp [Nat.add_assoc], ← List.append_assoc (a ++ b) c d, List.drop_left]
  simp [List.append_assoc]
theorem set_wr (cs : List Value) (j : Nat) (v : Value) (h : j < cs.length) : cs.set j v = wr cs j [v] := by
  rw [wr, List.set_eq_take_append_cons_drop, if_pos h]; simp
theorem split_at {α : Type} {l : List α} {k : Nat} {x : α} (hx : l[k]? = some x) : l = l.take k ++ x :: l.drop (k + 1) := by
  obtain ⟨hi, he⟩ := List.getElem?_eq_some_iff.1 hx
  rw [← he, List.getElem_cons_drop, List.take_append_drop]
theorem set_at {α : Type} {l : List α} {k : Nat} {x : α} (y : α) (hx : l[k]? = some x) : l.set k y = l.take k ++ y :: l.drop (k + 1) := by
  obtain ⟨hi, he⟩ := List.getElem?_eq_some_iff.1 hx
  rw [List.set_eq_take_append_cons_drop, if_pos hi]
/-- the second half of an element, written over -/
theorem Dat.cs_snd {α β : Type} [Dat α] [Dat β] {l : List (α × β)} {k : Nat} {q : α} {y x : β} (hx : l[k]? = some (q, y)) : wr (Dat.cs l) (k * Dat.sz (α × β) + Dat.sz α) (Dat.c x) = Dat.cs (l.set k (q, x)) := by
  have hk : (l.take k).length = k := by have := (List.getElem?_eq_some_iff.1 hx).1; rw [List.length_take]; omega
  have e0 : Dat.cs l = Dat.cs (l.take k) ++ (Dat.c q ++ Dat.c y) ++ Dat.cs (l.drop (k + 1)) := by
    conv => lhs; rw [split_at hx]
    rw [Dat.cs_app, show (q, y) :: l.drop (k + 1) = [(q, y)] ++ l.drop (k + 1) from rfl, Dat.cs_app, Dat.cs_one, ← List.append_assoc]; rfl
  have e1 : Dat.cs (l.set k (q, x)) = Dat.cs (l.take k) ++ (Dat.c q ++ Dat.c x) ++ Dat.cs (l.drop (k + 1)) := by
    rw [set_at _ hx, Dat.cs_app, show (q, x) :: l.drop (k + 1) = [(q, x)] ++ l.drop (k + 1) from rfl, Dat.cs_app, Dat.cs_one, ← List.append_assoc]; rfl
  have e2 : k * Dat.sz (α × β) + Dat.sz α = (Dat.cs (l.take k)).length + (Dat.c q).length := by rw [Dat.cs_len, hk, Dat.len]
  rw [e0, e1, e2, wr_mid _ _ _ _ _ (by rw [Dat.len, Dat.len])]
/-- an element, written over -/
theorem Dat.cs_set {α : Type} [Dat α] {l : List α} {k : Nat} {y x : α} (hx : l[k]? = some y) : wr (Dat.cs l) (k * Dat.sz α) (Dat.c x) = Dat.cs (l.set k x) := by
  have hk : (l.take k).length = k := by have := (List.getElem?_eq_some_iff.1 hx).1; rw [List.length_take]; omega
  have e0 : Dat.cs l = Dat.cs (l.take k) ++ ([] ++ Dat.c y) ++ Dat.cs (l.drop (k + 1)) := by
    conv => lhs; rw [split_at hx]
    rw [Dat.cs_app, show y :: l.drop (k + 1) = [y] ++ l.drop (k + 1) from rfl, Dat.cs_app, Dat.cs_one, ← List.append_assoc]; rfl
  have e1 : Dat.cs (l.set k x) = Dat.cs (l.take k) ++ ([] ++ Dat.c x) ++ Dat.cs (l.drop (k + 1)) := by
    rw [set_at _ hx, Dat.cs_app, show x :: l.drop (k + 1) = [x] ++ l.drop (k + 1) from rfl, Dat.cs_app, Dat.cs_one, ← List.append_assoc]; rfl
  have e2 : k * Dat.sz α = (Dat.cs (l.take k)).length + ([] : List Value).length := by rw [Dat.cs_len, hk]; rfl
  rw [e0, e1, e2, wr_mid _ _ _ _ _ (by rw [Dat.len, Dat.len])]
theorem Dat.cs_drop {α : Type} [Dat α] (l : List α) (k : Nat) : Dat.cs (l.drop k) = (Dat.cs l).drop (k * Dat.sz α) := by
  have h : Dat.cs l = Dat.cs (l.take k) ++ Dat.cs (l.drop k) := by rw [← Dat.cs_app, List.take_append_drop]
  by_cases hk : k ≤ l.length
  · have hl : (Dat.cs (l.take k)).length = k * Dat.sz α := by rw [Dat.cs_len, List.length_take, Nat.min_eq_left hk]
    rw [h, ← hl, List.drop_left]
  · rw [List.drop_of_length_le (by omega), List.drop_of_length_le (by rw [Dat.cs_len]; exact Nat.mul_le_mul_right _ (by omega)), Dat.cs_eq]; rfl
theorem Cel.atS {α : Type} [Dat α] {As : List SA} {A : SA} {g off n cap i : Nat} {l : List α} {x : α} {v : Value} (hA : Reads A 1 (.slice (some ⟨g, off, none⟩) n cap) n (Dat.cs l)) (h : In A As) (hx : l[i]? = some x) (hv : (Dat.c x)[0]? = some v) (hs : Dat.sz α = 1 := by rfl) : Cel As ⟨g, off + i, none⟩ v := by
  have := Cel.at0 hA h hx hv hs
  rwa [Nat.mul_one] at this
theorem beqB (a b : ByteArray) : (a == b) = decide (a = b) := by
  rw [Bool.eq_iff_iff, decide_eq_true_eq]
  constructor
  · intro h
    have h2 : (a.data == b.data) = true := h
    have := eq_of_beq h2
    cases a; cases b; simp_all
  · rintro rfl
    show (a.data == a.data) = true
    exact beq_self_eq_true _
instance : LawfulBEq ByteArray where
  eq_of_beq {a b} h := by rw [beqB] at h; simpa using h
  rfl {a} := by rw [beqB]; simp
section
variable {P : Program} {N : Nat} {F : FE} {As : List SA} {o : Oper} {x y : Operand}
theorem toList_beq (a b : ByteArray) : (a.toList == b.toList) = (a == b) := by
  rw [beqB, Bool.eq_iff_iff, beq_iff_eq, decide_eq_true_eq]
  constructor
  · intro h
    have h1 := ByteArray.toList_eq a; have h2 := ByteArray.toList_eq b
    rw [h1, h2] at h
    cases a; cases b; simp_all
  · rintro rfl; rfl
theorem Y.cmpB {t yt : Nat} {a b : ByteArray} {neg : Bool} (ho : o.op = .binOp (if neg then .neq else .eql) t x y yt) (hx : evO F x = some (.string a)) (hy : evO F y = some (.string b)) : Yld P N o F As (.bool (if neg then !(a == b) else (a == b))) := fun c w ha _ => by
  unfold execOp; rw [ho]
  replace hx := ha.eval hx
  replace hy := ha.eval hy
  generalize c.eval = ρ at hx hy ⊢
  cases neg
  · simp [hx, hy, eqGuard, binOp, Op.stringOp, toList_beq, go_sem]
  · simp [hx, hy, eqGuard, binOp, Op.stringOp, toList_beq, go_sem]
theorem Y.eqB {t yt : Nat} {a b : ByteArray} (ho : o.op = .binOp .eql t x y yt) (hx : evO F x = some (.string a)) (hy : evO F y = some (.string b)) : Yld P N o F As (.bool (a == b)) := Y.cmpB (neg := false) ho hx hy
theorem Y.neB {t yt : Nat} {a b : ByteArray} (ho : o.op = .binOp .neq t x y yt) (hx : evO F x = some (.string a)) (hy : evO F y = some (.string b)) : Yld P N o F As (.bool (!(a == b))) := Y.cmpB (neg := true) ho hx hy
end
theorem Cels.snd {α β : Type} [Dat α] [Dat β] {As : List SA} {A : SA} {g off n cap sz i : Nat} {l : List (α × β)} {q : α} {y : β} (hA : Reads A sz (.slice (some ⟨g, off, none⟩) n cap) n (Dat.cs l)) (h : In A As) (hx : l[i]? = some (q, y)) (h1 : Dat.sz α = 1) (hs : Dat.sz (α × β) = sz := by rfl) : Cels As ⟨g, off + (i * sz + 1), none⟩ (Dat.c y) := fun w hw j u hj => by
  have hk : (Dat.c (q, y))[1 + j]? = some u := by
    show (Dat.c q ++ Dat.c y)[1 + j]? = some u
    rw [List.getElem?_append_right (by rw [Dat.len]; omega), Dat.len, h1, show 1 + j - 1 = j by omega]; exact hj
  have := Cel.at hA h hx hk hs w hw
  rw [Addr.add_lit, Nat.add_assoc, Nat.add_assoc]; exact this
theorem br_rem8 {x y : UInt8} (h : y ≠ 0) : BR .rem .u8 x.toNat .u8 y.toNat (v8 (x % y)) := fun P w t => by
  have h0 : y.toNat ≠ 0 := fun e => h (UInt8.toNat_inj.1 e)
  simp [binOp, Op.intDiv, h0, go_sem]
  try rw [Int.tmod_eq_emod_of_nonneg (by omega)]
  try rfl
/-- an int32 -/
structure J32 where
  n : Int
instance : Dat J32 := Dat.scalar (fun x => .int .i32 x.n) ⟨0⟩ fun _ => rfl
theorem Ent.rdss0' {gs : List G} {L : List SA} (h : gs = []) : Ent L (SA.rdss gs :: L) := by rw [h]; exact Ent.rdss0
theorem Ent.exI {α : Type} {f : α → SA} {L L' : List SA} (h : ∀ x, Ent (f x :: L) L') : Ent (SA.ex f :: L) L' := fun w O R hp => by
  obtain ⟨O1, R1, O2, R2, ⟨x, hx⟩, hL, r⟩ := hp
  exact h x w O R ⟨O1, R1, O2, R2, hx, hL, r⟩
/-- bytes of one's own, from now on read -/
theorem Ent.bytesD {e : Nat} {a : Option Addr} {n cap : Nat} {l : List UInt8} {L L1 : List SA} (h : Pull (SA.owns e 1 (.slice a n cap) n (l.map v8)) L L1) (hn : l.length = n) : Ent L (SA.dat (⟨a, cap, l⟩ : Bs) :: L1) := h.ent.trans (Ent.freeze.trans (Ent.mkBytes hn))
/-- scalars of one's own, from now on read -/
theorem Ent.scalD {α : Type} [Dat α] {e : Nat} {a : Option Addr} {n cap : Nat} {l : List α} {L L1 : List SA} (h : Pull (SA.owns e 1 (.slice a n cap) n (Dat.cs l)) L L1) (hn : l.length = n) (hs : Dat.sz α = 1) (hg : ∀ x : α, Dat.g x = []) : Ent L (SA.dat (⟨a, cap, l⟩ : Sl α) :: L1) := by
  have e0 : l.flatMap Dat.g = [] := by rw [List.flatMap_eq_nil_iff]; intro x _; exact hg x
  refine h.ent.trans (Ent.freeze.trans ((Ent.under _ (Ent.rdss0' e0)).trans (Ent.mkSl hn hs rfl)))
/-- two that are read, as a pair -/
theorem Ent.pairD {α β : Type} [Dat α] [Dat β] {x : α} {y : β} {L L1 L2 : List SA} (h1 : Pull (SA.dat x) L L1) (h2 : Pull (SA.dat y) L1 L2) : Ent L (SA.dat (x, y) :: L2) := h1.ent.trans ((h2.ent.under _).trans Ent.rdssApp)
/-- no bytes -/
theorem Ent.nilBs {L : List SA} : Ent L (SA.dat (⟨none, 0, []⟩ : Bs) :: L) := (Ent.nilOwn 0 1).trans (Ent.freeze.trans (Ent.mkBytes (l := []) rfl))
-- what lies under a key
theorem ne_take {κ ν : Type} {l : List (κ × ν)} {q : κ} {i : Nat} {x : κ × ν} (h : ∀ y ∈ l.take i, ¬ y.1 = q) (hx : l[i]? = some x) (hq : ¬ x.1 = q) : ∀ y ∈ l.take (i + 1), ¬ y.1 = q := by
  intro y hy
  rw [List.take_add_one, hx] at hy
  rcases List.mem_append.1 hy with hy | hy
  · exact h y hy
  · simp at hy; subst hy; exact hq
section
variable {κ ν : Type} [BEq κ]
def Fi (l : List (κ × ν)) (q : κ) : Option Nat := l.findIdx? fun e => e.1 == q
def iv (r : Option Nat) : Int := r.elim (-1) fun k => (k : Int)
def tput (most : Nat) (l : List (κ × ν)) (q : κ) (x : ν) : List (κ × ν) × Bool := match Fi l q with
  | some k => (l.set k (q, x), true)
  | none => if l.length = most then (l, false) else (l ++ [(q, x)], true)
def tget (d : ν) (l : List (κ × ν)) (q : κ) : ν × Bool := match l.find? (fun e => e.1 == q) with
  | some e => (e.2, true)
  | none => (d, false)
theorem Fi_some [LawfulBEq κ] {l : List (κ × ν)} {q : κ} {k : Nat} (h : Fi l q = some k) : k < l.length ∧ ∃ x, l[k]? = some (q, x) ∧ ∀ d, tget d l q = (x, true) := by
  obtain ⟨hk, hp, hj⟩ := List.findIdx?_eq_some_iff_getElem.1 h
  refine ⟨hk, l[k].2, ?_, fun d => ?_⟩
  · rw [List.getElem?_eq_getElem hk]; congr 1; exact Prod.ext (by simpa using hp) rfl
  · have : l.find? (fun e => e.1 == q) = some l[k] := by
      rw [List.find?_eq_some_iff_getElem]
      exact ⟨hp, k, hk, rfl, fun j hj' => by simpa using hj j hj'⟩
    unfold tget; rw [this]
theorem Fi_none {l : List (κ × ν)} {q : κ} (h : Fi l q = none) (d : ν) : tget d l q = (d, false) := by
  have : l.find? (fun e => e.1 == q) = none := by
    rw [List.find?_eq_none]
    intro e he
    have := List.findIdx?_eq_none_iff.1 h e he
    simp [this]
  unfold tget; rw [this]
theorem Fi_at [LawfulBEq κ] {l : List (κ × ν)} {q : κ} {k : Nat} {x : κ × ν} (h : ∀ y ∈ l.take k, ¬ y.1 = q) (hx : l[k]? = some x) (hq : x.1 = q) : Fi l q = some k := by
  obtain ⟨hk, hxe⟩ := List.getElem?_eq_some_iff.1 hx
  unfold Fi
  rw [List.findIdx?_eq_some_iff_getElem]
  refine ⟨hk, by rw [hxe]; simpa using hq, fun j hj => ?_⟩
  have := h (l[j]) (by rw [List.mem_take_iff_getElem]; exact ⟨j, by omega, rfl⟩)
  simpa using this
theorem Fi_no [LawfulBEq κ] {l : List (κ × ν)} {q : κ} (h : ∀ y ∈ l, ¬ y.1 = q) : Fi l q = none := by
  unfold Fi; rw [List.findIdx?_eq_none_iff]; intro y hy; simpa using h y hy
theorem tput_some {most : Nat} {l : List (κ × ν)} {q : κ} {x : ν} {k : Nat} (h : Fi l q = some k) : tput most l q x = (l.set k (q, x), true) := by unfold tput; rw [h]
theorem tput_full {most : Nat} {l : List (κ × ν)} {q : κ} {x : ν} (h : Fi l q = none) (hm : l.length = most) : tput most l q x = (l, false) := by unfold tput; rw [h]; exact if_pos hm
theorem tput_new {most : Nat} {l : List (κ × ν)} {q : κ} {x : ν} (h : Fi l q = none) (hm : ¬ l.length = most) : tput most l q x = (l ++ [(q, x)], true) := by unfold tput; rw [h]; exact if_neg hm
def tdrop (l : List (κ × ν)) (q : κ) : List (κ × ν) × Bool := match Fi l q with
  | some k => (l.eraseIdx k, true)
  | none => (l, false)
theorem tdrop_some {l : List (κ × ν)} {q : κ} {k : Nat} (h : Fi l q = some k) : tdrop l q = (l.eraseIdx k, true) := by unfold tdrop; rw [h]
theorem tdrop_none {l : List (κ × ν)} {q : κ} (h : Fi l q = none) : tdrop l q = (l, false) := by unfold tdrop; rw [h]
theorem tput_len {most : Nat} {l : List (κ × ν)} {q : κ} {x : ν} (h : l.length ≤ most) : (tput most l q x).1.length ≤ most := by
  unfold tput
  split
  · simpa using h
  · split
    · exact h
    · simp; omega
end
end Go.Proofs.Ytomplpdeeomehaa

/- Strings: put together, and turned into bytes. No program is named. -/
namespace Go.Proofs.Ytomplpdeeomehaa
set_option linter.unusedVariables false
set_option linter.unusedSimpArgs false
open Go.RowKit
/-- the bytes of a string -/
def bl (t : ByteArray) : List UInt8 := t.data.toList
theorem bl_len (t : ByteArray) : (bl t).length = t.size := rfl
theorem bl_app (s t : ByteArray) : bl (s ++ t) = bl s ++ bl t := by simp [bl]
theorem bl_bstr (l : List UInt8) : bl (bstr l) = l := rfl
theorem bl_inj {s t : ByteArray} (h : bl s = bl t) : s = t := by
  obtain ⟨x⟩ := s
  obtain ⟨y⟩ := t
  congr 1
  exact Array.toList_inj.1 h
section
variable {P : Program} {N : Nat} {F : FE} {As L : List SA} {o : Oper} {x y : Operand}
theorem Y.addB {t yt : Nat} {a b : ByteArray} (ho : o.op = .binOp .add t x y yt) (hx : evO F x = some (.string a)) (hy : evO F y = some (.string b)) (h : a.size + b.size ≤ 9223372036854775807) : Yld P N o F As (.string (a ++ b)) := fun c w ha _ => by
  unfold execOp; rw [ho]
  replace hx := ha.eval hx
  replace hy := ha.eval hy
  generalize c.eval = ρ at hx hy ⊢
  have hm : (a.size : Int) + b.size ≤ 9223372036854775807 := by omega
  simp [hx, hy, eqGuard, binOp, Op.stringOp, hm, go_sem]
theorem St.madeR {w w' : World} (h : St L w) {sz : Nat} {v : Value} {n : Nat} {cs : List Value} (ho : Rd w' sz v n cs) (hf : Fr [] w w') (hn : ∀ k ∈ own v, w.heap.size ≤ k ∧ k < w'.heap.size) : St (SA.rds sz v n cs :: L) w' :=
  h.emp.upd fun O R _ _ => ⟨fun _ => False, fun k => k ∈ own v, ⟨fun _ _ h => h, ho⟩, fun k hk => hk.elim, fun k hk => .inr (.inr (hn k hk)), Ag.fr hf (by simp)⟩
/-- '[]byte(s)' -/
theorem X.strB {s d e : Nat} {t : ByteArray} (ho : o.op = .convert s d x) (hs : P.underlying s = some .string) (hd : P.underlying d = some (.slice e)) (he : P.underlying e = some (.int .u8)) (hx : evO F x = some (.string t)) (hm : t.size ≤ maxLen) :
    Eff P N o F L (fun v L' => ∃ g c, v = .slice (some ⟨g, 0, none⟩) t.size c ∧ L' = SA.rds 1 (.slice (some ⟨g, 0, none⟩) t.size c) t.size ((bl t).map v8) :: L) := by
  refine ⟨by rw [ho]; simp, fun Y a w ha hw K Q hK => ?_⟩
  unfold Oper.wp execOp; rw [ho]
  replace hx := ha.eval hx
  generalize a.eval = ρ at hx ⊢
  simp only [hx, Sem.run_bind, Go.Lib.run_convert_string_bytes w s d e t hs hd he, Result.andThen_ok, Sem.run_pure]
  have hsz := Go.Lib.bytesWorld_size w e t
  have hf : Fr [] w (Go.Lib.bytesWorld w e t) := ⟨rfl, rfl, rfl, by omega, fun k hk _ => Go.Lib.bytesWorld_at_old w e t k hk⟩
  refine hK _ _ _ ⟨_, _, rfl, rfl⟩ (St.up1 (hw.madeR ?_ hf fun k hk => ?_))
  · refine ⟨by simp [bl_len], one8, some ⟨w.heap.size, 0, none⟩, _, rfl, grownCap_ge w t.size 0 e, grownCap_le_maxLen w t.size 0 e hm, by simp, fun b hb j u hj => ?_⟩
    cases hb
    have hj' : j < t.size := by
      have := (List.getElem?_eq_some_iff.1 hj).1
      simpa [bl_len] using this
    rw [Addr.add_lit, Nat.zero_add, Go.Lib.bytesWorld_cell w e t j hj', ← hj, getML (d := (0 : UInt8)) (by rw [bl_len]; exact hj')]; rfl
  · simp [own] at hk
    subst hk
    omega
theorem Cels.pre {p : Addr} {l l' : List Value} (h : Cels As p l) (hp : l' <+: l) : Cels As p l' := fun w hw j u hj => by
  obtain ⟨t, rfl⟩ := hp
  refine h w hw j u ?_
  rw [List.getElem?_append_left (List.getElem?_eq_some_iff.1 hj).1]; exact hj
end
theorem Ent.eqOwn {e sz n : Nat} {v : Value} {cs cs' : List Value} {L L0 : List SA} (h : Pull (SA.owns e sz v n cs) L L0) (he : cs = cs') : Ent L (SA.owns e sz v n cs' :: L0) := he ▸ h.ent
/-- one cell of an element, written over -/
theorem Dat.cs_setE {α : Type} [Dat α] {l : List α} {i j : Nat} {x y : α} {v : Value} (hx : l[i]? = some x) (hj : j < Dat.sz α) (h : (Dat.c x).set j v = Dat.c y) : (Dat.cs l).set (i * Dat.sz α + j) v = Dat.cs (l.set i y) := by
  have hi := (List.getElem?_eq_some_iff.1 hx).1
  have hk : (Dat.cs (l.take i)).length = i * Dat.sz α := by rw [Dat.cs_len, List.length_take, Nat.min_eq_left (by omega)]
  have e0 : Dat.cs l = Dat.cs (l.take i) ++ (Dat.c x ++ Dat.cs (l.drop (i + 1))) := by
    conv => lhs; rw [split_at hx]
    rw [Dat.cs_app, show x :: l.drop (i + 1) = [x] ++ l.drop (i + 1) from rfl, Dat.cs_app, Dat.cs_one]
  have e1 : Dat.cs (l.set i y) = Dat.cs (l.take i) ++ (Dat.c y ++ Dat.cs (l.drop (i + 1))) := by
    rw [set_at _ hx, Dat.cs_app, show y :: l.drop (i + 1) = [y] ++ l.drop (i + 1) from rfl, Dat.cs_app, Dat.cs_one]
  rw [e0, e1, List.set_append_right _ _ (by omega), show i * Dat.sz α + j - (Dat.cs (l.take i)).length = j by omega, List.set_append_left _ _ (by rw [Dat.len]; exact hj), h]
end Go.Proofs.Ytomplpdeeomehaa

/- Functions that hold a label. No program is named. -/
namespace Go.Proofs.Ytomplpdeeomehaa
set_option linter.unusedVariables false
set_option linter.unusedSimpArgs false
open Go.RowKit
section
variable {P : Program} {b : Frame} {a : Act} {k : List Item} {cs : List Frame} {w : World} {Q : Exit → Act → World → Prop} {F : Fence} {n : Nat}
theorem stepR_scope {c : Code} : step P (lone (b.atR a (.code (.scope c) :: k)) cs w) = .next (lone (b.atR a (.code c :: .inScope c :: k)) cs w) :=
  step_lone_go (by simp [stepG, stepG.exec, Frame.atR])
theorem stepR_inScope {c : Code} : step P (lone (b.atR a (.inScope c :: k)) cs w) = .next (lone (b.atR a k) cs w) :=
  step_lone_go (by simp [stepG, stepG.exec, Frame.atR])
theorem wpIn_scope {c : Code} (h : c.wpIn F n P (Exit.noGoto Q) a w) : (Code.scope c).wpIn F n P Q a w := by
  intro b k cs hro hb hr
  have h0 : (lone (b.atR a (.code (.scope c) :: k)) cs w).fenced P F := fenced_calm hb hr rfl
  obtain ⟨e, a₁, w₁, hq, harr⟩ := h b (.inScope c :: k) cs hro hb hr
  cases e with
  | normal => exact ⟨.normal, a₁, w₁, hq, .head h0 stepR_scope (StepsIn.trans harr (.one (fenced_calm hb hr rfl) stepR_inScope))⟩
  | exit id =>
    have hx : exitTo id (.inScope c :: k) = exitTo id k := by simp [exitTo]
    exact ⟨.exit id, a₁, w₁, hq, fun k' hk => .head h0 stepR_scope (harr.1 k' (by rw [hx]; exact hk)),
      fun hr' hk => let ⟨k₁, h1, h2⟩ := harr.2 hr' (by rw [hx]; exact hk); ⟨k₁, h1, .head h0 stepR_scope h2⟩⟩
  | goto l => exact hq.elim
  | ret => exact ⟨_, a₁, w₁, hq, .of_steps (.one h0 stepR_scope) harr⟩
  | panic ch => exact ⟨_, a₁, w₁, hq, .of_steps (.one h0 stepR_scope) harr⟩
  | outgrown => exact ⟨_, a₁, w₁, hq, .of_steps (.one h0 stepR_scope) harr⟩
end
section
variable {κ : Ctx} {P : Program} {N : Nat} {c : Code} {F : FE} {L : List SA} {Q : Exit → Act → World → Prop}
theorem TC.scope (h : TC κ P N c F L (Exit.noGoto Q)) : TC κ P N (.scope c) F L Q := fun ds a w ha hd hw => wpIn_scope (h ds a w ha hd hw)
theorem TC.label {l : Nat} (h : TQ κ N .normal F L Q) : TC κ P N (.label l) F L Q := fun ds a w ha hd hw => wpIn_label (h ds a w ha hd hw)
theorem TQ.scope_normal (h : TQ κ N .normal F L Q) : TQ κ N .normal F L (Exit.noGoto Q) := h
theorem TQ.scope_ret (h : TQ κ N .ret F L Q) : TQ κ N .ret F L (Exit.noGoto Q) := h
theorem TQ.scope_exit {id : Nat} (h : TQ κ N (.exit id) F L Q) : TQ κ N (.exit id) F L (Exit.noGoto Q) := h
end
end Go.Proofs.Ytomplpdeeomehaa

/- Maps from uint32 to structs of data, as functions. No program is named. -/
namespace Go.Proofs.Ytomplpdeeomehaa
set_option linter.unusedVariables false
set_option linter.unusedSimpArgs false
open Go.RowKit Go.MapKept
section
variable {β : Type} [Dat β]
/-- what a map's entries are -/
def EntsOf (es : Array MapEntry) (l : List (UInt32 × β)) : Prop := es.toList.map (fun e => (e.key, e.val)) = l.map fun x => (v32 x.1, Value.agg (Dat.c x.2).toArray)
def mget (l : List (UInt32 × β)) (k : UInt32) : Option β := (l.find? fun x => x.1 == k).map (·.2)
/-- a map of one's own that says m, all of whose values can be read -/
def SA.mapD (b : Nat) (m : UInt32 → Option β) : SA where
  p w O R := O b ∧ ∃ (es : Array MapEntry) (clock : Nat) (l : List (UInt32 × β)), w.heap[b]? = some (.map es clock) ∧ EntsOf es l ∧ (∀ k, m k = mget l k) ∧ (l.map fun x : UInt32 × β => x.1).Nodup ∧ (SA.rdss (l.flatMap fun x => Dat.g x.2)).p w (fun _ => False) (fun k => R k ∧ k ≠ b)
  loc := by
    rintro w w' O R ⟨hO, es, clock, l, h1, h2, h3, h4, h5⟩ hg
    exact ⟨hO, es, clock, l, (hg.block b (Array.getElem?_eq_some_iff.1 h1).1 (.inl hO)).trans h1, h2, h3, h4, (SA.rdss _).loc h5 (hg.mono fun k _ hk => hk.elim (fun h => h.elim) fun h => .inr h.1)⟩
omit [Dat β] in
theorem key_ne {l : List (UInt32 × β)} (hn : (l.map (·.1)).Nodup) {i j : Nat} (hij : i < j) {x y : UInt32 × β} (hx : l[i]? = some x) (hy : l[j]? = some y) : x.1 ≠ y.1 := by
  obtain ⟨hi, hxe⟩ := List.getElem?_eq_some_iff.1 hx
  obtain ⟨hj, hye⟩ := List.getElem?_eq_some_iff.1 hy
  have := List.pairwise_iff_getElem.1 hn i j (by simpa using hi) (by simpa using hj) hij
  simpa [hxe, hye] using this
omit [Dat β] in
theorem mget_some {l : List (UInt32 × β)} {k : UInt32} {x : β} (h : mget l k = some x) : ∃ i : Nat, l[i]? = some (k, x) := by
  unfold mget at h
  cases hf : l.find? fun x => x.1 == k with
  | none => rw [hf] at h; cases h
  | some y =>
    rw [hf] at h
    obtain ⟨i, hi⟩ := List.mem_iff_getElem?.1 (List.mem_of_find?_eq_some hf)
    have hk := List.find?_some hf
    simp only [beq_iff_eq] at hk
    cases h
    exact ⟨i, by rw [hi, ← hk]⟩
omit [Dat β] in
theorem mget_at {l : List (UInt32 × β)} (hn : (l.map (·.1)).Nodup) {i : Nat} {k : UInt32} {x : β} (h : l[i]? = some (k, x)) : mget l k = some x := by
  unfold mget
  have : l.find? (fun x => x.1 == k) = some (k, x) := by
    rw [List.find?_eq_some_iff_getElem]
    obtain ⟨hi, he⟩ := List.getElem?_eq_some_iff.1 h
    refine ⟨by simp, i, hi, he, fun j hj => ?_⟩
    have hjl : j < l.length := by omega
    have := key_ne hn hj (List.getElem?_eq_getElem hjl) h
    simp [this]
  rw [this]; rfl
omit [Dat β] in
theorem mget_none {l : List (UInt32 × β)} {k : UInt32} : mget l k = none ↔ ∀ x ∈ l, x.1 ≠ k := by
  unfold mget
  rw [Option.map_eq_none_iff, List.find?_eq_none]
  simp
theorem EntsOf.get {es : Array MapEntry} {l : List (UInt32 × β)} (h : EntsOf es l) {i : Nat} {e : MapEntry} (he : es[i]? = some e) : ∃ k x, l[i]? = some (k, x) ∧ e.key = v32 k ∧ e.val = .agg (Dat.c x).toArray := by
  have := congrArg (fun q => q[i]?) h
  simp only [List.getElem?_map, Array.getElem?_toList, he, Option.map_some] at this
  cases hl : l[i]? with
  | none => rw [hl] at this; cases this
  | some y =>
    rw [hl] at this
    simp only [Option.map_some, Option.some.injEq, Prod.mk.injEq] at this
    exact ⟨y.1, y.2, rfl, this.1, this.2⟩
theorem EntsOf.isKey {es : Array MapEntry} {l : List (UInt32 × β)} (h : EntsOf es l) : ∀ x ∈ es.toList, IsKey (.int .u32) x.key := fun x hx => by
  obtain ⟨i, hi⟩ := List.mem_iff_getElem?.1 hx
  obtain ⟨k, y, -, hk, -⟩ := h.get (by simpa using hi)
  rw [hk]; rfl
theorem v32_inj {a b : UInt32} (h : v32 a = v32 b) : a = b := by
  simp only [v32, Value.int.injEq, true_and] at h
  exact UInt32.toNat_inj.1 (by omega)
/-- how a key is found -/
theorem EntsOf.find {es : Array MapEntry} {l : List (UInt32 × β)} (h : EntsOf es l) (hn : (l.map (·.1)).Nodup) (k : UInt32) :
    (Instr.findNow (.int .u32) (v32 k) es.toList 0 = some none ∧ mget l k = none) ∨ ∃ j e x, Instr.findNow (.int .u32) (v32 k) es.toList 0 = some (some (j, .agg (Dat.c x).toArray)) ∧ es[j]? = some e ∧ e.key = v32 k ∧ l[j]? = some (k, x) ∧ mget l k = some x := by
  rcases findNow_spec (k := v32 k) (d := .int .u32) rfl es.toList 0 h.isKey with ⟨h1, h2⟩ | ⟨j, e, h1, h2, h3⟩
  · refine .inl ⟨h1, mget_none.2 fun x hx e => ?_⟩
    obtain ⟨i, hi⟩ := List.mem_iff_getElem?.1 hx
    have := congrArg (fun q => q[i]?) h
    simp only [List.getElem?_map, hi, Option.map_some] at this
    cases he : es.toList[i]? with
    | none => rw [he] at this; cases this
    | some y =>
      rw [he] at this
      simp only [Option.map_some, Option.some.injEq, Prod.mk.injEq] at this
      exact h2 y (List.mem_of_getElem? he) (by rw [this.1, e])
  · have he : es[j]? = some e := by simpa using h2
    obtain ⟨k', x, hl, hk, hv⟩ := h.get he
    have hkk : k' = k := v32_inj (hk.symm.trans h3)
    subst hkk
    refine .inr ⟨j, e, x, ?_, he, hk, hl, mget_at hn hl⟩
    rw [h1, hv, Nat.zero_add]
theorem EntsOf.push {es : Array MapEntry} {l : List (UInt32 × β)} (h : EntsOf es l) (k : UInt32) (x : β) (c : Nat) : EntsOf (es.push { key := v32 k, val := .agg (Dat.c x).toArray, born := c }) (l ++ [(k, x)]) := by
  unfold EntsOf at *
  rw [Array.toList_push, List.map_append, h, List.map_append]; rfl
theorem EntsOf.set {es : Array MapEntry} {l : List (UInt32 × β)} (h : EntsOf es l) {i : Nat} {e : MapEntry} {k : UInt32} {y : β} (x : β) (he : es[i]? = some e) (hl : l[i]? = some (k, y)) : EntsOf (es.modify i fun e => { e with key := v32 k, val := .agg (Dat.c x).toArray }) (l.set i (k, x)) := by
  unfold EntsOf at *
  apply List.ext_getElem?
  intro j
  have hj := congrArg (fun q => q[j]?) h
  simp only [List.getElem?_map, Array.getElem?_toList, Array.getElem?_modify, List.getElem?_set] at hj ⊢
  by_cases hij : i = j
  · subst hij
    have hi := (List.getElem?_eq_some_iff.1 hl).1
    simp [he, hi]
  · simp only [hij, if_false]; exact hj
theorem EntsOf.erase {es : Array MapEntry} {l : List (UInt32 × β)} (h : EntsOf es l) (i : Nat) : EntsOf (es.eraseIdxIfInBounds i) (l.eraseIdx i) := by
  unfold EntsOf at *
  have hl : es.toList.length = l.length := by simpa using congrArg List.length h
  have e0 : (es.eraseIdxIfInBounds i).toList = es.toList.eraseIdx i := by
    unfold Array.eraseIdxIfInBounds
    split
    · simp
    · rename_i hi; rw [List.eraseIdx_of_length_le (by simpa using hi)]
  rw [e0]
  apply List.ext_getElem?
  intro j
  have h1 := congrArg (fun q => q[j]?) h
  have h2 := congrArg (fun q => q[j + 1]?) h
  simp only [List.getElem?_map] at h1 h2
  simp only [List.getElem?_map, List.getElem?_eraseIdx]
  split
  · exact h1
  · exact h2
omit [Dat β] in
theorem mget_push {l : List (UInt32 × β)} {k q : UInt32} {x : β} (h : mget l k = none) : mget (l ++ [(k, x)]) q = if q = k then some x else mget l q := by
  unfold mget at *
  rw [List.find?_append]
  by_cases hq : q = k
  · subst hq
    rw [Option.map_eq_none_iff] at h
    rw [h]; simp
  · have : ([(k, x)] : List (UInt32 × β)).find? (fun x => x.1 == q) = none := by simp [Ne.symm hq]
    rw [this, Option.or_none, if_neg hq]
omit [Dat β] in
theorem mget_set {l : List (UInt32 × β)} (hn : (l.map (·.1)).Nodup) {i : Nat} {k q : UInt32} {x y : β} (h : l[i]? = some (k, y)) : mget (l.set i (k, x)) q = if q = k then some x else mget l q := by
  have hi := (List.getElem?_eq_some_iff.1 h).1
  have hk : (l.set i (k, x)).map (·.1) = l.map (·.1) := by
    apply List.ext_getElem?
    intro j
    simp only [List.getElem?_map, List.getElem?_set]
    by_cases hij : i = j
    · subst hij
      have he := (List.getElem?_eq_some_iff.1 h).2
      simp [hi, he]
    · simp [hij]
  by_cases hq : q = k
  · subst hq
    rw [if_pos rfl]
    exact mget_at (by rw [hk]; exact hn) (i := i) (by rw [List.getElem?_set]; simp [hi])
  · rw [if_neg hq]
    cases hm : mget l q with
    | none =>
      rw [mget_none] at hm ⊢
      intro z hz
      rcases List.mem_or_eq_of_mem_set hz with hz | rfl
      · exact hm z hz
      · exact fun e => hq e.symm
    | some z =>
      obtain ⟨j, hj⟩ := mget_some hm
      have hij : i ≠ j := fun e => by subst e; rw [h] at hj; cases hj; exact hq rfl
      exact mget_at (by rw [hk]; exact hn) (i := j) (by rw [List.getElem?_set]; simp [hij, hj])
omit [Dat β] in
theorem mget_erase {l : List (UInt32 × β)} (hn : (l.map (·.1)).Nodup) {i : Nat} {k q : UInt32} {y : β} (h : l[i]? = some (k, y)) : mget (l.eraseIdx i) q = if q = k then none else mget l q := by
  have hs : (l.eraseIdx i).Sublist l := List.eraseIdx_sublist _ _
  have hn' : ((l.eraseIdx i).map (·.1)).Nodup := (hs.map _).nodup hn
  have hmem : ∀ z ∈ l.eraseIdx i, z.1 ≠ k := by
    intro z hz e
    obtain ⟨j, hj, hji⟩ := List.mem_eraseIdx_iff_getElem?.1 hz
    rcases Nat.lt_or_ge j i with hlt | hge
    · exact key_ne hn hlt hji h e
    · exact key_ne hn (show i < j by omega) h hji e.symm
  by_cases hq : q = k
  · subst hq
    rw [if_pos rfl]
    exact mget_none.2 hmem
  · rw [if_neg hq]
    cases hm : mget l q with
    | none => exact mget_none.2 fun z hz => mget_none.1 hm z (hs.subset hz)
    | some z =>
      obtain ⟨j, hj⟩ := mget_some hm
      have hij : j ≠ i := fun e => by subst e; rw [h] at hj; cases hj; exact hq rfl
      obtain ⟨j', hj'⟩ := List.mem_iff_getElem?.1 (List.mem_eraseIdx_iff_getElem?.2 ⟨j, hij, hj⟩)
      exact mget_at hn' hj'
end
section
variable {P : Program} {N : Nat} {F : FE} {As L L0 : List SA} {o : Oper} {x y z : Operand} {β : Type} [Dat β]
theorem In.p {A : SA} {As : List SA} {w : World} (h : In A As) (hw : Holds As w) : ∃ O R, A.p w O R := hw A h
theorem Y.lookup {t kt et b : Nat} {m : UInt32 → Option β} {k : UInt32} {zc : Array Value} (ho : o.op = .lookup t x y true) (ht : P.underlying t = some (.map kt et)) (hk : P.underlying kt = some (.int .u32)) (hz : ((P.info? et).bind (·.zero)) = some (.agg zc))
    (hx : evO F x = some (.map (some b))) (hy : evO F y = some (v32 k)) (hin : In (SA.mapD b m) As) : Yld P N o F As (.tuple #[(match m k with | some v => .agg (Dat.c v).toArray | none => .agg zc), .bool (m k).isSome]) := fun a w ha hw => by
  unfold execOp; rw [ho]
  replace hx := ha.eval hx
  replace hy := ha.eval hy
  generalize a.eval = ρ at hx hy ⊢
  obtain ⟨O, R, -, es, clock, l, hb, he, hm, hn, -⟩ := hw _ hin
  obtain ⟨inf, hinf, hzz⟩ := Option.bind_eq_some_iff.1 hz
  simp only [hx, hy]
  rcases he.find hn k with ⟨h1, h2⟩ | ⟨j, e, v, h1, -, -, -, h2⟩
  · have hmk : m k = none := (hm k).trans h2
    have hzv : (zeroValue et).run P w = .ok (.agg zc) w := by simp [zeroValue, typeInfo, hinf, hzz, go_sem]
    simp [Instr.lookup, run_underlying ht, Go.MapKept.run_getObj_map hb, run_checkKey (k := v32 k) hk rfl, run_findKey hk h1, hzv, hmk, Result.andThen]
  · have hmk : m k = some v := (hm k).trans h2
    simp [Instr.lookup, run_underlying ht, Go.MapKept.run_getObj_map hb, run_checkKey (k := v32 k) hk rfl, run_findKey hk h1, hmk, Result.andThen]
theorem Ent.mapGet {b : Nat} {m : UInt32 → Option β} {k : UInt32} {v : β} (h : m k = some v) : Ent (SA.mapD b m :: L) (SA.dat v :: SA.mapD b m :: L) := by
  have h1 : Ent (SA.mapD b m :: L) (SA.star (SA.dat v) (SA.mapD b m) :: L) := Ent.imp fun w O R hA => by
    obtain ⟨hO, es, clock, l, hb, he, hm, hn, hr⟩ := hA
    refine ⟨fun k => k = b, R, ⟨fun _ => False, fun k => R k ∧ k ≠ b, fun k => k = b, R, ?_, ⟨rfl, es, clock, l, hb, he, hm, hn, hr⟩, fun q hq => hq.elim, fun q hq => ⟨hq, fun hf => hf.2 hq⟩, fun q hq => hq.1, fun q hq => hq⟩, fun k hk => hk ▸ hO, fun _ h => .inr h⟩
    obtain ⟨i, hi⟩ := mget_some ((hm k).symm.trans h)
    exact fun q hq => hr q (List.mem_flatMap.2 ⟨(k, v), List.mem_of_getElem? hi, hq⟩)
  exact h1.trans (Ent.of_le (L := SA.star (SA.dat v) (SA.mapD b m) :: L) (L' := SA.dat v :: SA.mapD b m :: L) SA.Le.assoc)
theorem heapSet_fr {w : World} {b : Nat} (o : Obj) : Fr [b] w { w with heap := w.heap.setIfInBounds b o } := ⟨rfl, rfl, rfl, by simp, fun k hk hn => by
  have : b ≠ k := fun e => hn (by simp [e])
  simp [this]⟩
/-- a new map, with nothing in it -/
theorem X.makeMap {t : TypeId} (ho : o.op = .makeMap t none) : Eff P N o F L (fun v L' => ∃ b, v = .map (some b) ∧ L' = SA.mapD b (fun _ => (none : Option β)) :: L) := by
  refine ⟨by rw [ho]; simp, fun Y a w ha hw K Q hK => ?_⟩
  unfold Oper.wp execOp; rw [ho]
  have hr : (Instr.makeMap t none).run P w = .ok (.map (some w.heap.size)) (w.alloc (.map #[] 0)) := rfl
  simp only [Option.map_none, hr, Sem.run_bind, Result.andThen_ok, Sem.run_pure]
  refine hK _ _ _ ⟨_, rfl, rfl⟩ (St.up1 (hw.emp.upd fun O R _ _ => ⟨fun k => k = w.heap.size, fun _ => False, ⟨rfl, #[], 0, [], (heap_alloc w _).1, rfl, fun _ => rfl, List.nodup_nil, fun q hq => by simp at hq⟩, fun k hk => .inr (by subst hk; simp), by simp, Ag.fr ((Fr.refl [] _).alloc _) (by simp)⟩))
theorem rdss_mono {gs hs : List G} {w : World} {O O' R R' : Nat → Prop} (h : (SA.rdss gs).p w O R) (hR : ∀ k, R k → R' k) (hs' : ∀ q ∈ hs, q ∈ gs) : (SA.rdss hs).p w O' R' := fun q hq => ⟨fun hn k hk => hR k ((h q (hs' q hq)).1 hn k hk), (h q (hs' q hq)).2⟩
theorem mapD_step {Y : SA} {w w' : World} {b : Nat} {m m' : UInt32 → Option β} {gs : List G} (hw : St (Y :: SA.rdss gs :: SA.mapD b m :: L) w) (hf : Fr [b] w w')
    (h : ∀ es clock (l : List (UInt32 × β)), w.heap[b]? = some (.map es clock) → EntsOf es l → (∀ k, m k = mget l k) → (l.map fun x : UInt32 × β => x.1).Nodup →
      ∃ es' clock' l', w'.heap[b]? = some (.map es' clock') ∧ EntsOf es' l' ∧ (∀ k, m' k = mget l' k) ∧ (l'.map fun x : UInt32 × β => x.1).Nodup ∧ ∀ x ∈ l', x ∈ l ∨ ∀ q ∈ Dat.g x.2, q ∈ gs) :
    St (Y :: SA.mapD b m' :: L) w' := by
  have h1 : St (SA.star (SA.rdss gs) (SA.mapD b m) :: Y :: L) w := St.unstar (St.up2 (St.up2 hw))
  refine St.up1 (h1.upd fun O R hA _ => ?_)
  obtain ⟨O1, R1, O2, R2, hD, ⟨hO, es, clock, l, hb, he, hm, hn, hr⟩, r1, r2, r3, r4⟩ := hA
  obtain ⟨es', clock', l', hb', he', hm', hn', hsub⟩ := h es clock l hb he hm hn
  have hnb : ∀ k, R1 k → k ≠ b := fun k hk e => (r2 b hO).2 (e ▸ hk)
  refine ⟨fun k => k = b, fun k => R1 k ∨ R2 k, ⟨rfl, es', clock', l', hb', he', hm', hn', ?_⟩, fun k hk => .inl (hk ▸ (r2 b hO).1), fun k hk => .inr (.inl (hk.elim (r3 k) (r4 k))), Ag.fr hf (fun k hk e => by
    simp at e; subst e; exact hk (r2 k hO).1)⟩
  refine (SA.rdss _).loc (w := w) ?_ (Ag.fr hf (fun k hk e => by
    simp at e; subst e; exact hk.elim (fun h => h) fun h => h.2 rfl))
  intro q hq
  obtain ⟨x, hx, hq⟩ := List.mem_flatMap.1 hq
  rcases hsub x hx with hx | hx
  · have := hr q (List.mem_flatMap.2 ⟨x, hx, hq⟩)
    exact ⟨fun hn k hk => ⟨.inr (this.1 hn k hk).1, (this.1 hn k hk).2⟩, this.2⟩
  · have := hD q (hx q hq)
    exact ⟨fun hn k hk => ⟨.inl (this.1 hn k hk), hnb k (this.1 hn k hk)⟩, this.2⟩
def mput (m : UInt32 → Option β) (k : UInt32) (v : β) (q : UInt32) : Option β := if q = k then some v else m q
def mdel (m : UInt32 → Option β) (k : UInt32) (q : UInt32) : Option β := if q = k then none else m q
theorem X.mapPut {t kt et b : Nat} {m : UInt32 → Option β} {k : UInt32} {v : β} {vc : Array Value} (ho : o.op = .mapUpdate t x y z) (ht : P.underlying t = some (.map kt et)) (hk : P.underlying kt = some (.int .u32))
    (hx : evO F x = some (.map (some b))) (hy : evO F y = some (v32 k)) (hz : evO F z = some (.agg vc)) (hvc : vc = (Dat.c v).toArray) (h1 : Pull (SA.mapD b m) L L0) {L1 : List SA} (h2 : Pull (SA.dat v) L0 L1) : Eff P N o F L (fun _ L' => L' = SA.mapD b (mput m k v) :: L1) := by
  subst hvc
  refine ⟨by rw [ho]; simp, fun Y a w ha hw K Q hK => ?_⟩
  unfold Oper.wp execOp; rw [ho]
  replace hx := ha.eval hx
  replace hy := ha.eval hy
  replace hz := ha.eval hz
  generalize a.eval = ρ at hx hy hz ⊢
  have hst : St (Y :: SA.rdss (Dat.g v) :: SA.mapD b m :: L1) w := St.up1 ((Pull.there (B := Y) (Pull.there (B := SA.mapD b m) h2)).st (St.up1 ((Pull.there (B := Y) h1).st hw)))
  obtain ⟨O, R, ⟨-, es, clock, l, hb, he, hm, hn, -⟩, -⟩ := hst.tl.tl.hd
  simp only [hx, hy, hz]
  rcases he.find hn k with ⟨f1, f2⟩ | ⟨j, e, y0, f1, f2, f3, f4, f5⟩
  · have hr : (Instr.mapUpdate t (.map (some b)) (v32 k) (.agg (Dat.c v).toArray)).run P w = .ok () { w with heap := w.heap.setIfInBounds b (.map (es.push { key := v32 k, val := .agg (Dat.c v).toArray, born := clock }) (clock + 1)) } := by
      simp [Instr.mapUpdate, run_underlying ht, Go.MapKept.run_getObj_map hb, run_checkKey (k := v32 k) hk rfl, run_findKey hk f1, run_setObj_map _ hb, Result.andThen]
    generalize Instr.mapUpdate t _ _ _ = q at hr ⊢
    simp only [hr, Sem.run_bind, Result.andThen_ok, Sem.run_pure]
    refine hK _ _ _ rfl (mapD_step hst (heapSet_fr _) fun es' clock' l' hb' he' hm' hn' => ?_)
    rw [hb] at hb'
    obtain ⟨rfl, rfl⟩ : es = es' ∧ clock = clock' := by cases hb'; exact ⟨rfl, rfl⟩
    have hf2 : mget l' k = none := by rw [← hm', hm, f2]
    refine ⟨_, _, l' ++ [(k, v)], (heap_set hb).1, he'.push k v clock, fun q => by rw [mget_push hf2, ← hm']; rfl, ?_, fun x hx => ?_⟩
    · rw [List.map_append]
      refine List.nodup_append.2 ⟨hn', by simp, ?_⟩
      intro a ha c hc
      simp only [List.map_cons, List.map_nil, List.mem_singleton] at hc
      subst hc
      obtain ⟨x, hx, rfl⟩ := List.mem_map.1 ha
      exact mget_none.1 hf2 x hx
    · rcases List.mem_append.1 hx with hx | hx
      · exact .inl hx
      · rw [List.mem_singleton] at hx; subst hx; exact .inr fun q hq => hq
  · have hr : (Instr.mapUpdate t (.map (some b)) (v32 k) (.agg (Dat.c v).toArray)).run P w = .ok () { w with heap := w.heap.setIfInBounds b (.map (es.modify j fun e => { e with key := v32 k, val := .agg (Dat.c v).toArray }) clock) } := by
      simp [Instr.mapUpdate, run_underlying ht, Go.MapKept.run_getObj_map hb, run_checkKey (k := v32 k) hk rfl, run_findKey hk f1, f2, f3, run_keyThatStays (d := .int .u32) (k := v32 k) rfl, run_setObj_map _ hb, Result.andThen]
    generalize Instr.mapUpdate t _ _ _ = q at hr ⊢
    simp only [hr, Sem.run_bind, Result.andThen_ok, Sem.run_pure]
    refine hK _ _ _ rfl (mapD_step hst (heapSet_fr _) fun es' clock' l' hb' he' hm' hn' => ?_)
    rw [hb] at hb'
    obtain ⟨rfl, rfl⟩ : es = es' ∧ clock = clock' := by cases hb'; exact ⟨rfl, rfl⟩
    obtain ⟨k2, x2, g1, g2, -⟩ := he'.get f2
    have hkk : k2 = k := v32_inj (g2.symm.trans f3)
    subst hkk
    refine ⟨_, _, l'.set j (k2, v), (heap_set hb).1, he'.set v f2 g1, fun q => by rw [mget_set hn' g1, ← hm']; rfl, ?_, fun x hx => ?_⟩
    · have hk : (l'.set j (k2, v)).map (fun x : UInt32 × β => x.1) = l'.map fun x => x.1 := by
        apply List.ext_getElem?
        intro i
        simp only [List.getElem?_map, List.getElem?_set]
        by_cases hij : j = i
        · subst hij
          have hi := (List.getElem?_eq_some_iff.1 g1).1
          have he := (List.getElem?_eq_some_iff.1 g1).2
          simp [hi, he]
        · simp [hij]
      rw [hk]; exact hn'
    · rcases List.mem_or_eq_of_mem_set hx with hx | rfl
      · exact .inl hx
      · exact .inr fun q hq => hq
theorem X.mapDel {t kt kt' et b : Nat} {m : UInt32 → Option β} {k : UInt32} (ho : o.op = .call { callee := .builtin .delete, args := #[x, y], argTypes := #[t, kt'] }) (ht : P.underlying t = some (.map kt et)) (hk : P.underlying kt = some (.int .u32))
    (hx : evO F x = some (.map (some b))) (hy : evO F y = some (v32 k)) (h1 : Pull (SA.mapD b m) L L0) : Eff P N o F L (fun _ L' => L' = SA.mapD b (mdel m k) :: L0) := by
  refine ⟨by rw [ho]; simp, fun Y a w ha hw K Q hK => ?_⟩
  unfold Oper.wp execOp; rw [ho]
  replace hx := ha.eval hx
  replace hy := ha.eval hy
  have hst : St (Y :: SA.rdss [] :: SA.mapD b m :: L0) w := (((Ent.rdss0 (L := SA.mapD b m :: L0)).under Y).st (St.up1 ((Pull.there (B := Y) h1).st hw)))
  obtain ⟨O, R, ⟨-, es, clock, l, hb, he, hm, hn, -⟩, -⟩ := hst.tl.tl.hd
  have same : ∀ es', w.heap[b]? = some (.map es' clock) → { w with heap := w.heap.setIfInBounds b (.map es' clock) } = w := fun es' h => by
    have : w.heap.setIfInBounds b (.map es' clock) = w.heap := by
      apply Array.ext_getElem?
      intro i
      rw [Array.getElem?_setIfInBounds]
      split
      · rename_i e; subst e
        split
        · exact h.symm
        · rename_i hlt; rw [Array.getElem?_eq_none (by omega)]
      · rfl
    rw [this]
  rcases he.find hn k with ⟨f1, f2⟩ | ⟨j, e, y0, f1, f2, f3, f4, f5⟩
  · have hr : (Builtin.delete_ #[t, kt'] o.type #[.map (some b), v32 k]).run P w = .ok (.tuple #[]) { w with heap := w.heap.setIfInBounds b (.map es clock) } := by
      simp [Builtin.delete_, run_underlying ht, Go.MapKept.run_getObj_map hb, run_checkKey (k := v32 k) hk rfl, run_findKey hk f1, run_setObj_map _ hb, Result.andThen]
    generalize a.eval = ρ at hx hy ⊢
    simp [resolve, invoke, builtin, hx, hy, hr, Result.andThen, Oper.upon]
    refine hK _ _ _ rfl (mapD_step hst (heapSet_fr _) fun es' clock' l' hb' he' hm' hn' => ?_)
    rw [hb] at hb'
    obtain ⟨rfl, rfl⟩ : es = es' ∧ clock = clock' := by cases hb'; exact ⟨rfl, rfl⟩
    have hf2 : mget l' k = none := by rw [← hm', hm, f2]
    refine ⟨_, _, l', (heap_set hb).1, he', fun q => ?_, hn', fun x hx => .inl hx⟩
    show (if q = k then none else m q) = mget l' q
    by_cases hq : q = k
    · subst hq; rw [if_pos rfl, hf2]
    · rw [if_neg hq, hm']
  · have hr : (Builtin.delete_ #[t, kt'] o.type #[.map (some b), v32 k]).run P w = .ok (.tuple #[]) { w with heap := w.heap.setIfInBounds b (.map (es.eraseIdxIfInBounds j) clock) } := by
      simp [Builtin.delete_, run_underlying ht, Go.MapKept.run_getObj_map hb, run_checkKey (k := v32 k) hk rfl, run_findKey hk f1, run_setObj_map _ hb, Result.andThen]
    generalize a.eval = ρ at hx hy ⊢
    simp [resolve, invoke, builtin, hx, hy, hr, Result.andThen, Oper.upon]
    refine hK _ _ _ rfl (mapD_step hst (heapSet_fr _) fun es' clock' l' hb' he' hm' hn' => ?_)
    rw [hb] at hb'
    obtain ⟨rfl, rfl⟩ : es = es' ∧ clock = clock' := by cases hb'; exact ⟨rfl, rfl⟩
    obtain ⟨k2, x2, g1, g2, -⟩ := he'.get f2
    have hkk : k2 = k := v32_inj (g2.symm.trans f3)
    subst hkk
    have hs : (l'.eraseIdx j).Sublist l' := List.eraseIdx_sublist _ _
    exact ⟨_, _, l'.eraseIdx j, (heap_set hb).1, he'.erase j, fun q => by rw [mget_erase hn' g1, ← hm']; rfl, (hs.map _).nodup hn', fun x hx => .inl (hs.subset hx)⟩
end
end Go.Proofs.Ytomplpdeeomehaa

/- 'copy' into a slice of one's own; lending what is owned, piece by piece; more on pieces of bytes. No program is named. -/
namespace Go.Proofs.Ytomplpdeeomehaa
set_option linter.unusedVariables false
set_option linter.unusedSimpArgs false
open Go.RowKit
section
variable {P : Program} {N : Nat} {F : FE} {As L L0 : List SA} {o : Oper} {x y z : Operand} {u v : Value}
theorem X.copyOwn {dT sT e eo dn dc sz m n cap g off q j : Nat} {cs cs' news : List Value} (ho : o.op = .call { callee := .builtin .copy, args := #[x, y], argTypes := #[dT, sT] }) (hu : P.underlying dT = some (.slice e)) (hsz : (P.info? e).map (·.size) = some sz)
    (hx : evO F x = some (.slice (some ⟨g, q, none⟩) dn dc)) (hq : q = off + j) (hy : evO F y = some u) (hs : ∀ w, Holds L w → Src P sz sT u m news w) (hp : Pull (SA.owns eo sz (.slice (some ⟨g, off, none⟩) n cap) n cs) L L0) (hm : m ≤ dn) (hj : j + m * sz ≤ n * sz) (he : wr cs j news = cs') :
    Eff P N o F L (fun v L' => v = vN m ∧ L' = SA.owns eo sz (.slice (some ⟨g, off, none⟩) n cap) n cs' :: L0) := by
  refine ⟨by rw [ho]; simp, fun Y a w ha hw K Q hK => ?_⟩
  unfold Oper.wp execOp; rw [ho]
  subst he; subst hq
  replace hx := ha.eval hx
  replace hy := ha.eval hy
  have hst := (Pull.there (B := Y) hp).st hw
  have hO := hst.isOwn
  have hsrc := hs w hw.tl.holds
  obtain ⟨inf, hinf, rfl⟩ := Option.map_eq_some_iff.1 hsz
  have hc := hsrc.cells
  have hl := hsrc.newsLen
  obtain ⟨arr, hb, hsz⟩ : ∃ arr, Blk w g arr eo ∧ off + n * inf.size ≤ arr.size := by
    rcases hO.val with ⟨hv, _⟩ | ⟨g', off', cap', arr, hv, hb1, h2, _, e3, _⟩
    · cases hv
    · cases hv
      have := Nat.mul_le_mul_right inf.size h2
      exact ⟨arr, hb1, by omega⟩
  have hrun := run_storeCells_cells (P := P) g (off + j) news 0 w (fun i hi => by rw [hb.cell]; simp at hi ⊢; omega) (fun i hi => hb.frozen _) hsrc.one
  have hcp : (Builtin.copy_ #[dT, sT] o.type #[.slice (some ⟨g, off + j, none⟩) dn dc, u]).run P w = .ok (vN m) (w.setCells g (off + j) news) := by
    unfold Builtin.copy_
    have hmin : Nat.min m dn = m := Nat.min_eq_left hm
    simp only [Nat.add_zero] at hrun
    simp [run_underlying hu, hsrc.len, hmin, sizeOf, typeInfo, hinf, hc, hrun, goInt]
  have hfin := hO.within news hsrc.one j (by omega)
  generalize a.eval = ρ at hx hy ⊢
  simp [resolve, invoke, builtin, hx, hy, hcp, Result.andThen, Oper.upon]
  exact hK _ _ _ ⟨rfl, rfl⟩ (St.up1 (hst.frS (S := [g]) (Fr.setCells _ _ _ (Fr.refl _ _) (by simp)) fun O R hA => ⟨fun k hk => hA.1 k (by simpa [own] using hk), O, R, ⟨fun k hk => hA.1 k (by simpa [own] using hk), hfin⟩, fun k hk => .inl hk, fun k hk => .inr (.inl hk)⟩))
end
theorem cutV_some {g off cap k n sz : Nat} (h : k < cap) : cutV (some ⟨g, off, none⟩) cap k n sz = .slice (some ⟨g, off + k * sz, none⟩) (n - k) (cap - k) := by
  unfold cutV; rw [if_neg (by omega)]; simp [Addr.add_lit]
theorem wr_tail (a b c : List Value) (h : b.length = c.length) : wr (a ++ b) a.length c = a ++ c := by
  unfold wr; rw [List.take_left, ← h, ← List.length_append, List.drop_length, List.append_nil]
theorem Reads.head {A : SA} {sz n cap k : Nat} {a : Option Addr} {cs : List Value} (h : Reads A sz (.slice a n cap) n cs) (hk : k ≤ n) : Reads A sz (.slice a k cap) k (cs.take (k * sz)) := fun w O R hp => (h w O R hp).take hk
theorem Reads.head8 {A : SA} {n cap k : Nat} {a : Option Addr} {l : List UInt8} (h : Reads A 1 (.slice a n cap) n (l.map v8)) (hk : k ≤ n) : Reads A 1 (.slice a k cap) k ((l.take k).map v8) := by
  have := h.head hk
  rwa [Nat.mul_one, ← List.map_take] at this
section
variable {L L1 : List SA}
/-- the beginning of bytes of one's own, from now on read -/
theorem Ent.headOwn {e n cap k : Nat} {a : Option Addr} {l : List UInt8} (h : Pull (SA.owns e 1 (.slice a n cap) n (l.map v8)) L L1) (hk : k ≤ n) : Ent L (SA.rds 1 (.slice a k cap) k ((l.take k).map v8) :: L1) := by
  have := Ent.takeRds (L := L1) (sz := 1) (a := a) (cap := cap) (cs := l.map v8) hk
  rw [Nat.mul_one, ← List.map_take] at this
  exact h.ent.trans (Ent.freeze.trans this)
/-- the elements apart from the slice -/
theorem Ent.unSl {α : Type} [Dat α] {a : Option Addr} {cap : Nat} {l : List α} {L : List SA} : Ent (SA.dat (⟨a, cap, l⟩ : Sl α) :: L) (SA.rds (Dat.sz α) (.slice a l.length cap) l.length (Dat.cs l) :: SA.rdss (l.flatMap Dat.g) :: L) :=
  (Ent.rdsOf (s := (⟨a, cap, l⟩ : Sl α))).trans (Ent.under _ ((Ent.rdss_sub fun q hq => List.mem_cons_of_mem _ hq).trans (Ent.under _ Ent.drop)))
/-- the beginning of a slice, beside the whole -/
theorem Ent.headSl {α : Type} [Dat α] {a : Option Addr} {cap k : Nat} {l : List α} (h : Pull (SA.dat (⟨a, cap, l⟩ : Sl α)) L L1) (hk : k ≤ l.length) : Ent L (SA.dat (⟨a, cap, l.take k⟩ : Sl α) :: SA.dat (⟨a, cap, l⟩ : Sl α) :: L1) := by
  refine h.ent.trans ((Ent.dup Dup.dat).trans (Ent.unSl.trans ?_))
  refine (Ent.takeRds hk).trans ?_
  have hl : (l.take k).length = k := by rw [List.length_take]; omega
  have hc : (Dat.cs l).take (k * Dat.sz α) = Dat.cs (l.take k) := by
    have e : Dat.cs l = Dat.cs (l.take k) ++ Dat.cs (l.drop k) := by rw [← Dat.cs_app, List.take_append_drop]
    rw [e, show k * Dat.sz α = (Dat.cs (l.take k)).length by rw [Dat.cs_len, hl], List.take_left]
  rw [hc]
  refine (Ent.under _ ((Ent.rdss_sub (hs := (l.take k).flatMap Dat.g) fun q hq => ?_).trans (Ent.under _ Ent.drop))).trans (Ent.mkSl hl rfl rfl)
  obtain ⟨x, hx, hq⟩ := List.mem_flatMap.1 hq
  exact List.mem_flatMap.2 ⟨x, List.mem_of_mem_take hx, hq⟩
end
section
variable {P : Program} {L : List SA} {f : FuncId} {args : List Value}
/-- a function that reads a slice of structs is handed one of one's own -/
theorem Fn.lendSl {α : Type} [Dat α] {e sz cap : Nat} {a : Option Addr} {l : List α} {R : Value → List SA → Prop} (hs : Dat.sz α = sz) (h : ∀ L, Fn P f args (SA.dat (⟨a, cap, l⟩ : Sl α) :: L) (fun v L' => ∃ Ln, R v Ln ∧ (∀ A, In A Ln → OO A) ∧ L' = Ln ++ SA.dat (⟨a, cap, l⟩ : Sl α) :: L)) (L : List SA) :
    Fn P f args (SA.owns e sz (.slice a l.length cap) l.length (Dat.cs l) :: SA.rdss (l.flatMap Dat.g) :: L) (fun v L' => ∃ Ln, R v Ln ∧ L' = Ln ++ SA.owns e sz (.slice a l.length cap) l.length (Dat.cs l) :: SA.rdss (l.flatMap Dat.g) :: L) := by
  subst hs
  refine (Fn.lend (R := R) (Lend.cons Lend1.own (Lend.cons (Lend1.same Dup.rdss) Lend.nil)) ?_ L)
  refine Fn.preE (Ent.mkSl rfl rfl rfl) ((h []).mono ?_)
  rintro v L' ⟨Ln, h1, h2, rfl⟩
  refine ⟨Ln ++ [SA.rds (Dat.sz α) (.slice a l.length cap) l.length (Dat.cs l), SA.rdss (l.flatMap Dat.g)], ?_, Ln, h1, h2, rfl⟩
  have e0 : ∀ M : List SA, Ent (M ++ [SA.dat (⟨a, cap, l⟩ : Sl α)]) (M ++ [SA.rds (Dat.sz α) (.slice a l.length cap) l.length (Dat.cs l), SA.rdss (l.flatMap Dat.g)]) := fun M => by
    induction M with
    | nil => exact Ent.unSl
    | cons B M ih => exact ih.under B
  exact e0 Ln
end
end Go.Proofs.Ytomplpdeeomehaa

/- The printed walks' side goals under short names. No program is named. -/
namespace Go.Proofs.Ytomplpdeeomehaa
set_option linter.unusedVariables false
set_option linter.unusedSimpArgs false
open Go.RowKit
section
variable {As L L' : List SA} {A : SA} {p : Addr} {v : Value} {φ : Prop}
theorem pul (h : Pull A L L' := by first | (with_reducible (repeat first | apply Pull.here | apply Pull.there); done) | (repeat first | apply Pull.here | apply Pull.there)) : Pull A L L' := h
theorem inn (h : In A L := by with_reducible (repeat first | apply In.here | apply In.there)) : In A L := h
theorem lnn (h : φ := by ((try simp only [List.length_set, List.length_map, List.length_append, List.length_replicate, List.size_toArray, List.length_cons, List.length_nil, Array.size_setIfInBounds]); (first | omega | exact of_decide_eq_true (by rfl)))) : φ := h
theorem szz (h : φ := by ((try simp only [List.size_toArray, List.length_set, List.length_map, List.length_append, List.length_replicate, List.length_cons, List.length_nil]); (first | done | omega | (simp [*]; done)))) : φ := h
theorem nqq (h : φ := by ((try simp only [Nat.zero_add, Nat.add_zero, Nat.mul_one, Nat.one_mul, Nat.mul_zero, Nat.zero_mul]) <;> rfl)) : φ := h
theorem ett (h : Ent L L' := by (repeat first | (with_reducible apply Ent.refl) | (with_reducible apply Ent.nil) | refine Ent.cons (by first | (with_reducible (repeat first | apply Pull.here | apply Pull.there); done) | (repeat first | apply Pull.here | apply Pull.there)) ?_ | refine Ent.skip ?_)) : Ent L L' := h
theorem cel8 (h : Cel As p v := by first | exact Cel.at0 Reads.owns (by with_reducible (repeat first | apply In.here | apply In.there)) (by assumption) (by rfl) | exact Cel.at Reads.owns (by with_reducible (repeat first | apply In.here | apply In.there)) (by assumption) (by rfl) | exact Cel.datAt0 (by with_reducible (repeat first | apply In.here | apply In.there)) (by assumption) (by rfl) | exact Cel.datAt (by with_reducible (repeat first | apply In.here | apply In.there)) (by assumption) (by rfl) | exact Cel.datAtS (by with_reducible (repeat first | apply In.here | apply In.there)) (by assumption) (by rfl) | exact Cel.blk (by with_reducible (repeat first | apply In.here | apply In.there)) (by first | exact getM (d := (0 : UInt8)) (by ((try simp only [List.length_set, List.length_map, List.length_append, List.length_replicate, List.size_toArray, List.length_cons, List.length_nil, Array.size_setIfInBounds]); (first | omega | exact of_decide_eq_true (by rfl)))) | rfl) | exact Cel.rblk (by with_reducible (repeat first | apply In.here | apply In.there)) (by first | exact getM (d := (0 : UInt8)) (by ((try simp only [List.length_set, List.length_map, List.length_append, List.length_replicate, List.size_toArray, List.length_cons, List.length_nil, Array.size_setIfInBounds]); (first | omega | exact of_decide_eq_true (by rfl)))) | rfl) | exact Cel.rds (by with_reducible (repeat first | apply In.here | apply In.there)) (getML (d := (0 : UInt8)) (by ((try simp only [List.length_set, List.length_map, List.length_append, List.length_replicate, List.size_toArray, List.length_cons, List.length_nil, Array.size_setIfInBounds]); (first | omega | exact of_decide_eq_true (by rfl))))) | exact Cel.rdsB (by with_reducible (repeat first | apply In.here | apply In.there)) (getML (d := (0 : UInt8)) (by ((try simp only [List.length_set, List.length_map, List.length_append, List.length_replicate, List.size_toArray, List.length_cons, List.length_nil, Array.size_setIfInBounds]); (first | omega | exact of_decide_eq_true (by rfl))))) | exact Cel.owns (by with_reducible (repeat first | apply In.here | apply In.there)) (getML (d := (0 : UInt8)) (by ((try simp only [List.length_set, List.length_map, List.length_append, List.length_replicate, List.size_toArray, List.length_cons, List.length_nil, Array.size_setIfInBounds]); (first | omega | exact of_decide_eq_true (by rfl))))) | exact Cel.reads (by assumption) (by with_reducible (repeat first | apply In.here | apply In.there)) (getML (d := (0 : UInt8)) (by ((try simp only [List.length_set, List.length_map, List.length_append, List.length_replicate, List.size_toArray, List.length_cons, List.length_nil, Array.size_setIfInBounds]); (first | omega | exact of_decide_eq_true (by rfl))))) | exact Cel.rds0 (by with_reducible (repeat first | apply In.here | apply In.there)) (getML (d := (0 : UInt8)) (by ((try simp only [List.length_set, List.length_map, List.length_append, List.length_replicate, List.size_toArray, List.length_cons, List.length_nil, Array.size_setIfInBounds]); (first | omega | exact of_decide_eq_true (by rfl))))) | exact Cel.owns0 (by with_reducible (repeat first | apply In.here | apply In.there)) (getML (d := (0 : UInt8)) (by ((try simp only [List.length_set, List.length_map, List.length_append, List.length_replicate, List.size_toArray, List.length_cons, List.length_nil, Array.size_setIfInBounds]); (first | omega | exact of_decide_eq_true (by rfl)))))) : Cel As p v := h
theorem cel16 (h : Cel As p v := by first | exact Cel.at0 Reads.owns (by with_reducible (repeat first | apply In.here | apply In.there)) (by assumption) (by rfl) | exact Cel.at Reads.owns (by with_reducible (repeat first | apply In.here | apply In.there)) (by assumption) (by rfl) | exact Cel.datAt0 (by with_reducible (repeat first | apply In.here | apply In.there)) (by assumption) (by rfl) | exact Cel.datAt (by with_reducible (repeat first | apply In.here | apply In.there)) (by assumption) (by rfl) | exact Cel.datAtS (by with_reducible (repeat first | apply In.here | apply In.there)) (by assumption) (by rfl) | exact Cel.blk (by with_reducible (repeat first | apply In.here | apply In.there)) (by first | exact getM (d := (0 : UInt16)) (by ((try simp only [List.length_set, List.length_map, List.length_append, List.length_replicate, List.size_toArray, List.length_cons, List.length_nil, Array.size_setIfInBounds]); (first | omega | exact of_decide_eq_true (by rfl)))) | rfl) | exact Cel.rblk (by with_reducible (repeat first | apply In.here | apply In.there)) (by first | exact getM (d := (0 : UInt16)) (by ((try simp only [List.length_set, List.length_map, List.length_append, List.length_replicate, List.size_toArray, List.length_cons, List.length_nil, Array.size_setIfInBounds]); (first | omega | exact of_decide_eq_true (by rfl)))) | rfl) | exact Cel.rds (by with_reducible (repeat first | apply In.here | apply In.there)) (getML (d := (0 : UInt16)) (by ((try simp only [List.length_set, List.length_map, List.length_append, List.length_replicate, List.size_toArray, List.length_cons, List.length_nil, Array.size_setIfInBounds]); (first | omega | exact of_decide_eq_true (by rfl))))) | exact Cel.rdsB (by with_reducible (repeat first | apply In.here | apply In.there)) (getML (d := (0 : UInt16)) (by ((try simp only [List.length_set, List.length_map, List.length_append, List.length_replicate, List.size_toArray, List.length_cons, List.length_nil, Array.size_setIfInBounds]); (first | omega | exact of_decide_eq_true (by rfl))))) | exact Cel.owns (by with_reducible (repeat first | apply In.here | apply In.there)) (getML (d := (0 : UInt16)) (by ((try simp only [List.length_set, List.length_map, List.length_append, List.length_replicate, List.size_toArray, List.length_cons, List.length_nil, Array.size_setIfInBounds]); (first | omega | exact of_decide_eq_true (by rfl))))) | exact Cel.reads (by assumption) (by with_reducible (repeat first | apply In.here | apply In.there)) (getML (d := (0 : UInt16)) (by ((try simp only [List.length_set, List.length_map, List.length_append, List.length_replicate, List.size_toArray, List.length_cons, List.length_nil, Array.size_setIfInBounds]); (first | omega | exact of_decide_eq_true (by rfl))))) | exact Cel.rds0 (by with_reducible (repeat first | apply In.here | apply In.there)) (getML (d := (0 : UInt16)) (by ((try simp only [List.length_set, List.length_map, List.length_append, List.length_replicate, List.size_toArray, List.length_cons, List.length_nil, Array.size_setIfInBounds]); (first | omega | exact of_decide_eq_true (by rfl))))) | exact Cel.owns0 (by with_reducible (repeat first | apply In.here | apply In.there)) (getML (d := (0 : UInt16)) (by ((try simp only [List.length_set, List.length_map, List.length_append, List.length_replicate, List.size_toArray, List.length_cons, List.length_nil, Array.size_setIfInBounds]); (first | omega | exact of_decide_eq_true (by rfl)))))) : Cel As p v := h
theorem cel32 (h : Cel As p v := by first | exact Cel.at0 Reads.owns (by with_reducible (repeat first | apply In.here | apply In.there)) (by assumption) (by rfl) | exact Cel.at Reads.owns (by with_reducible (repeat first | apply In.here | apply In.there)) (by assumption) (by rfl) | exact Cel.datAt0 (by with_reducible (repeat first | apply In.here | apply In.there)) (by assumption) (by rfl) | exact Cel.datAt (by with_reducible (repeat first | apply In.here | apply In.there)) (by assumption) (by rfl) | exact Cel.datAtS (by with_reducible (repeat first | apply In.here | apply In.there)) (by assumption) (by rfl) | exact Cel.blk (by with_reducible (repeat first | apply In.here | apply In.there)) (by first | exact getM (d := (0 : UInt32)) (by ((try simp only [List.length_set, List.length_map, List.length_append, List.length_replicate, List.size_toArray, List.length_cons, List.length_nil, Array.size_setIfInBounds]); (first | omega | exact of_decide_eq_true (by rfl)))) | rfl) | exact Cel.rblk (by with_reducible (repeat first | apply In.here | apply In.there)) (by first | exact getM (d := (0 : UInt32)) (by ((try simp only [List.length_set, List.length_map, List.length_append, List.length_replicate, List.size_toArray, List.length_cons, List.length_nil, Array.size_setIfInBounds]); (first | omega | exact of_decide_eq_true (by rfl)))) | rfl) | exact Cel.rds (by with_reducible (repeat first | apply In.here | apply In.there)) (getML (d := (0 : UInt32)) (by ((try simp only [List.length_set, List.length_map, List.length_append, List.length_replicate, List.size_toArray, List.length_cons, List.length_nil, Array.size_setIfInBounds]); (first | omega | exact of_decide_eq_true (by rfl))))) | exact Cel.rdsB (by with_reducible (repeat first | apply In.here | apply In.there)) (getML (d := (0 : UInt32)) (by ((try simp only [List.length_set, List.length_map, List.length_append, List.length_replicate, List.size_toArray, List.length_cons, List.length_nil, Array.size_setIfInBounds]); (first | omega | exact of_decide_eq_true (by rfl))))) | exact Cel.owns (by with_reducible (repeat first | apply In.here | apply In.there)) (getML (d := (0 : UInt32)) (by ((try simp only [List.length_set, List.length_map, List.length_append, List.length_replicate, List.size_toArray, List.length_cons, List.length_nil, Array.size_setIfInBounds]); (first | omega | exact of_decide_eq_true (by rfl))))) | exact Cel.reads (by assumption) (by with_reducible (repeat first | apply In.here | apply In.there)) (getML (d := (0 : UInt32)) (by ((try simp only [List.length_set, List.length_map, List.length_append, List.length_replicate, List.size_toArray, List.length_cons, List.length_nil, Array.size_setIfInBounds]); (first | omega | exact of_decide_eq_true (by rfl))))) | exact Cel.rds0 (by with_reducible (repeat first | apply In.here | apply In.there)) (getML (d := (0 : UInt32)) (by ((try simp only [List.length_set, List.length_map, List.length_append, List.length_replicate, List.size_toArray, List.length_cons, List.length_nil, Array.size_setIfInBounds]); (first | omega | exact of_decide_eq_true (by rfl))))) | exact Cel.owns0 (by with_reducible (repeat first | apply In.here | apply In.there)) (getML (d := (0 : UInt32)) (by ((try simp only [List.length_set, List.length_map, List.length_append, List.length_replicate, List.size_toArray, List.length_cons, List.length_nil, Array.size_setIfInBounds]); (first | omega | exact of_decide_eq_true (by rfl)))))) : Cel As p v := h
theorem cel64 (h : Cel As p v := by first | exact Cel.at0 Reads.owns (by with_reducible (repeat first | apply In.here | apply In.there)) (by assumption) (by rfl) | exact Cel.at Reads.owns (by with_reducible (repeat first | apply In.here | apply In.there)) (by assumption) (by rfl) | exact Cel.datAt0 (by with_reducible (repeat first | apply In.here | apply In.there)) (by assumption) (by rfl) | exact Cel.datAt (by with_reducible (repeat first | apply In.here | apply In.there)) (by assumption) (by rfl) | exact Cel.datAtS (by with_reducible (repeat first | apply In.here | apply In.there)) (by assumption) (by rfl) | exact Cel.blk (by with_reducible (repeat first | apply In.here | apply In.there)) (by first | exact getM (d := (0 : UInt64)) (by ((try simp only [List.length_set, List.length_map, List.length_append, List.length_replicate, List.size_toArray, List.length_cons, List.length_nil, Array.size_setIfInBounds]); (first | omega | exact of_decide_eq_true (by rfl)))) | rfl) | exact Cel.rblk (by with_reducible (repeat first | apply In.here | apply In.there)) (by first | exact getM (d := (0 : UInt64)) (by ((try simp only [List.length_set, List.length_map, List.length_append, List.length_replicate, List.size_toArray, List.length_cons, List.length_nil, Array.size_setIfInBounds]); (first | omega | exact of_decide_eq_true (by rfl)))) | rfl) | exact Cel.rds (by with_reducible (repeat first | apply In.here | apply In.there)) (getML (d := (0 : UInt64)) (by ((try simp only [List.length_set, List.length_map, List.length_append, List.length_replicate, List.size_toArray, List.length_cons, List.length_nil, Array.size_setIfInBounds]); (first | omega | exact of_decide_eq_true (by rfl))))) | exact Cel.rdsB (by with_reducible (repeat first | apply In.here | apply In.there)) (getML (d := (0 : UInt64)) (by ((try simp only [List.length_set, List.length_map, List.length_append, List.length_replicate, List.size_toArray, List.length_cons, List.length_nil, Array.size_setIfInBounds]); (first | omega | exact of_decide_eq_true (by rfl))))) | exact Cel.owns (by with_reducible (repeat first | apply In.here | apply In.there)) (getML (d := (0 : UInt64)) (by ((try simp only [List.length_set, List.length_map, List.length_append, List.length_replicate, List.size_toArray, List.length_cons, List.length_nil, Array.size_setIfInBounds]); (first | omega | exact of_decide_eq_true (by rfl))))) | exact Cel.reads (by assumption) (by with_reducible (repeat first | apply In.here | apply In.there)) (getML (d := (0 : UInt64)) (by ((try simp only [List.length_set, List.length_map, List.length_append, List.length_replicate, List.size_toArray, List.length_cons, List.length_nil, Array.size_setIfInBounds]); (first | omega | exact of_decide_eq_true (by rfl))))) | exact Cel.rds0 (by with_reducible (repeat first | apply In.here | apply In.there)) (getML (d := (0 : UInt64)) (by ((try simp only [List.length_set, List.length_map, List.length_append, List.length_replicate, List.size_toArray, List.length_cons, List.length_nil, Array.size_setIfInBounds]); (first | omega | exact of_decide_eq_true (by rfl))))) | exact Cel.owns0 (by with_reducible (repeat first | apply In.here | apply In.there)) (getML (d := (0 : UInt64)) (by ((try simp only [List.length_set, List.length_map, List.length_append, List.length_replicate, List.size_toArray, List.length_cons, List.length_nil, Array.size_setIfInBounds]); (first | omega | exact of_decide_eq_true (by rfl)))))) : Cel As p v := h
theorem celN (h : Cel As p v := by first | exact Cel.at0 Reads.owns (by with_reducible (repeat first | apply In.here | apply In.there)) (by assumption) (by rfl) | exact Cel.at Reads.owns (by with_reducible (repeat first | apply In.here | apply In.there)) (by assumption) (by rfl) | exact Cel.datAt0 (by with_reducible (repeat first | apply In.here | apply In.there)) (by assumption) (by rfl) | exact Cel.datAt (by with_reducible (repeat first | apply In.here | apply In.there)) (by assumption) (by rfl) | exact Cel.datAtS (by with_reducible (repeat first | apply In.here | apply In.there)) (by assumption) (by rfl) | exact Cel.blk (by with_reducible (repeat first | apply In.here | apply In.there)) (by first | exact getM (d := (0 : Nat)) (by ((try simp only [List.length_set, List.length_map, List.length_append, List.length_replicate, List.size_toArray, List.length_cons, List.length_nil, Array.size_setIfInBounds]); (first | omega | exact of_decide_eq_true (by rfl)))) | rfl) | exact Cel.rblk (by with_reducible (repeat first | apply In.here | apply In.there)) (by first | exact getM (d := (0 : Nat)) (by ((try simp only [List.length_set, List.length_map, List.length_append, List.length_replicate, List.size_toArray, List.length_cons, List.length_nil, Array.size_setIfInBounds]); (first | omega | exact of_decide_eq_true (by rfl)))) | rfl) | exact Cel.rds (by with_reducible (repeat first | apply In.here | apply In.there)) (getML (d := (0 : Nat)) (by ((try simp only [List.length_set, List.length_map, List.length_append, List.length_replicate, List.size_toArray, List.length_cons, List.length_nil, Array.size_setIfInBounds]); (first | omega | exact of_decide_eq_true (by rfl))))) | exact Cel.rdsB (by with_reducible (repeat first | apply In.here | apply In.there)) (getML (d := (0 : Nat)) (by ((try simp only [List.length_set, List.length_map, List.length_append, List.length_replicate, List.size_toArray, List.length_cons, List.length_nil, Array.size_setIfInBounds]); (first | omega | exact of_decide_eq_true (by rfl))))) | exact Cel.owns (by with_reducible (repeat first | apply In.here | apply In.there)) (getML (d := (0 : Nat)) (by ((try simp only [List.length_set, List.length_map, List.length_append, List.length_replicate, List.size_toArray, List.length_cons, List.length_nil, Array.size_setIfInBounds]); (first | omega | exact of_decide_eq_true (by rfl))))) | exact Cel.reads (by assumption) (by with_reducible (repeat first | apply In.here | apply In.there)) (getML (d := (0 : Nat)) (by ((try simp only [List.length_set, List.length_map, List.length_append, List.length_replicate, List.size_toArray, List.length_cons, List.length_nil, Array.size_setIfInBounds]); (first | omega | exact of_decide_eq_true (by rfl))))) | exact Cel.rds0 (by with_reducible (repeat first | apply In.here | apply In.there)) (getML (d := (0 : Nat)) (by ((try simp only [List.length_set, List.length_map, List.length_append, List.length_replicate, List.size_toArray, List.length_cons, List.length_nil, Array.size_setIfInBounds]); (first | omega | exact of_decide_eq_true (by rfl))))) | exact Cel.owns0 (by with_reducible (repeat first | apply In.here | apply In.there)) (getML (d := (0 : Nat)) (by ((try simp only [List.length_set, List.length_map, List.length_append, List.length_replicate, List.size_toArray, List.length_cons, List.length_nil, Array.size_setIfInBounds]); (first | omega | exact of_decide_eq_true (by rfl)))))) : Cel As p v := h
theorem celD (h : Cel As p v := by first | exact Cel.at0 Reads.owns (by with_reducible (repeat first | apply In.here | apply In.there)) (by assumption) (by rfl) | exact Cel.at Reads.owns (by with_reducible (repeat first | apply In.here | apply In.there)) (by assumption) (by rfl) | exact Cel.datAt0 (by with_reducible (repeat first | apply In.here | apply In.there)) (by assumption) (by rfl) | exact Cel.datAt (by with_reducible (repeat first | apply In.here | apply In.there)) (by assumption) (by rfl) | exact Cel.datAtS (by with_reducible (repeat first | apply In.here | apply In.there)) (by assumption) (by rfl) | exact Cel.blk (by with_reducible (repeat first | apply In.here | apply In.there)) (by first | exact getM (d := default) (by ((try simp only [List.length_set, List.length_map, List.length_append, List.length_replicate, List.size_toArray, List.length_cons, List.length_nil, Array.size_setIfInBounds]); (first | omega | exact of_decide_eq_true (by rfl)))) | rfl) | exact Cel.rblk (by with_reducible (repeat first | apply In.here | apply In.there)) (by first | exact getM (d := default) (by ((try simp only [List.length_set, List.length_map, List.length_append, List.length_replicate, List.size_toArray, List.length_cons, List.length_nil, Array.size_setIfInBounds]); (first | omega | exact of_decide_eq_true (by rfl)))) | rfl) | exact Cel.rds (by with_reducible (repeat first | apply In.here | apply In.there)) (getML (d := default) (by ((try simp only [List.length_set, List.length_map, List.length_append, List.length_replicate, List.size_toArray, List.length_cons, List.length_nil, Array.size_setIfInBounds]); (first | omega | exact of_decide_eq_true (by rfl))))) | exact Cel.rdsB (by with_reducible (repeat first | apply In.here | apply In.there)) (getML (d := default) (by ((try simp only [List.length_set, List.length_map, List.length_append, List.length_replicate, List.size_toArray, List.length_cons, List.length_nil, Array.size_setIfInBounds]); (first | omega | exact of_decide_eq_true (by rfl))))) | exact Cel.owns (by with_reducible (repeat first | apply In.here | apply In.there)) (getML (d := default) (by ((try simp only [List.length_set, List.length_map, List.length_append, List.length_replicate, List.size_toArray, List.length_cons, List.length_nil, Array.size_setIfInBounds]); (first | omega | exact of_decide_eq_true (by rfl))))) | exact Cel.reads (by assumption) (by with_reducible (repeat first | apply In.here | apply In.there)) (getML (d := default) (by ((try simp only [List.length_set, List.length_map, List.length_append, List.length_replicate, List.size_toArray, List.length_cons, List.length_nil, Array.size_setIfInBounds]); (first | omega | exact of_decide_eq_true (by rfl))))) | exact Cel.rds0 (by with_reducible (repeat first | apply In.here | apply In.there)) (getML (d := default) (by ((try simp only [List.length_set, List.length_map, List.length_append, List.length_replicate, List.size_toArray, List.length_cons, List.length_nil, Array.size_setIfInBounds]); (first | omega | exact of_decide_eq_true (by rfl))))) | exact Cel.owns0 (by with_reducible (repeat first | apply In.here | apply In.there)) (getML (d := default) (by ((try simp only [List.length_set, List.length_map, List.length_append, List.length_replicate, List.size_toArray, List.length_cons, List.length_nil, Array.size_setIfInBounds]); (first | omega | exact of_decide_eq_true (by rfl)))))) : Cel As p v := h
theorem ceo8 (h : Cel As p v := by first | exact Cel.blk (by with_reducible (repeat first | apply In.here | apply In.there)) (by first | exact getM (d := (0 : UInt8)) (by ((try simp only [List.length_set, List.length_map, List.length_append, List.length_replicate, List.size_toArray, List.length_cons, List.length_nil, Array.size_setIfInBounds]); (first | omega | exact of_decide_eq_true (by rfl)))) | rfl) | exact Cel.rblk (by with_reducible (repeat first | apply In.here | apply In.there)) (by first | exact getM (d := (0 : UInt8)) (by ((try simp only [List.length_set, List.length_map, List.length_append, List.length_replicate, List.size_toArray, List.length_cons, List.length_nil, Array.size_setIfInBounds]); (first | omega | exact of_decide_eq_true (by rfl)))) | rfl) | exact Cel.rds (by with_reducible (repeat first | apply In.here | apply In.there)) (getML (d := (0 : UInt8)) (by ((try simp only [List.length_set, List.length_map, List.length_append, List.length_replicate, List.size_toArray, List.length_cons, List.length_nil, Array.size_setIfInBounds]); (first | omega | exact of_decide_eq_true (by rfl))))) | exact Cel.rdsB (by with_reducible (repeat first | apply In.here | apply In.there)) (getML (d := (0 : UInt8)) (by ((try simp only [List.length_set, List.length_map, List.length_append, List.length_replicate, List.size_toArray, List.length_cons, List.length_nil, Array.size_setIfInBounds]); (first | omega | exact of_decide_eq_true (by rfl))))) | exact Cel.owns (by with_reducible (repeat first | apply In.here | apply In.there)) (getML (d := (0 : UInt8)) (by ((try simp only [List.length_set, List.length_map, List.length_append, List.length_replicate, List.size_toArray, List.length_cons, List.length_nil, Array.size_setIfInBounds]); (first | omega | exact of_decide_eq_true (by rfl))))) | exact Cel.reads (by assumption) (by with_reducible (repeat first | apply In.here | apply In.there)) (getML (d := (0 : UInt8)) (by ((try simp only [List.length_set, List.length_map, List.length_append, List.length_replicate, List.size_toArray, List.length_cons, List.length_nil, Array.size_setIfInBounds]); (first | omega | exact of_decide_eq_true (by rfl)))))) : Cel As p v := h
theorem ceo16 (h : Cel As p v := by first | exact Cel.blk (by with_reducible (repeat first | apply In.here | apply In.there)) (by first | exact getM (d := (0 : UInt16)) (by ((try simp only [List.length_set, List.length_map, List.length_append, List.length_replicate, List.size_toArray, List.length_cons, List.length_nil, Array.size_setIfInBounds]); (first | omega | exact of_decide_eq_true (by rfl)))) | rfl) | exact Cel.rblk (by with_reducible (repeat first | apply In.here | apply In.there)) (by first | exact getM (d := (0 : UInt16)) (by ((try simp only [List.length_set, List.length_map, List.length_append, List.length_replicate, List.size_toArray, List.length_cons, List.length_nil, Array.size_setIfInBounds]); (first | omega | exact of_decide_eq_true (by rfl)))) | rfl) | exact Cel.rds (by with_reducible (repeat first | apply In.here | apply In.there)) (getML (d := (0 : UInt16)) (by ((try simp only [List.length_set, List.length_map, List.length_append, List.length_replicate, List.size_toArray, List.length_cons, List.length_nil, Array.size_setIfInBounds]); (first | omega | exact of_decide_eq_true (by rfl))))) | exact Cel.rdsB (by with_reducible (repeat first | apply In.here | apply In.there)) (getML (d := (0 : UInt16)) (by ((try simp only [List.length_set, List.length_map, List.length_append, List.length_replicate, List.size_toArray, List.length_cons, List.length_nil, Array.size_setIfInBounds]); (first | omega | exact of_decide_eq_true (by rfl))))) | exact Cel.owns (by with_reducible (repeat first | apply In.here | apply In.there)) (getML (d := (0 : UInt16)) (by ((try simp only [List.length_set, List.length_map, List.length_append, List.length_replicate, List.size_toArray, List.length_cons, List.length_nil, Array.size_setIfInBounds]); (first | omega | exact of_decide_eq_true (by rfl))))) | exact Cel.reads (by assumption) (by with_reducible (repeat first | apply In.here | apply In.there)) (getML (d := (0 : UInt16)) (by ((try simp only [List.length_set, List.length_map, List.length_append, List.length_replicate, List.size_toArray, List.length_cons, List.length_nil, Array.size_setIfInBounds]); (first | omega | exact of_decide_eq_true (by rfl)))))) : Cel As p v := h
theorem ceo32 (h : Cel As p v := by first | exact Cel.blk (by with_reducible (repeat first | apply In.here | apply In.there)) (by first | exact getM (d := (0 : UInt32)) (by ((try simp only [List.length_set, List.length_map, List.length_append, List.length_replicate, List.size_toArray, List.length_cons, List.length_nil, Array.size_setIfInBounds]); (first | omega | exact of_decide_eq_true (by rfl)))) | rfl) | exact Cel.rblk (by with_reducible (repeat first | apply In.here | apply In.there)) (by first | exact getM (d := (0 : UInt32)) (by ((try simp only [List.length_set, List.length_map, List.length_append, List.length_replicate, List.size_toArray, List.length_cons, List.length_nil, Array.size_setIfInBounds]); (first | omega | exact of_decide_eq_true (by rfl)))) | rfl) | exact Cel.rds (by with_reducible (repeat first | apply In.here | apply In.there)) (getML (d := (0 : UInt32)) (by ((try simp only [List.length_set, List.length_map, List.length_append, List.length_replicate, List.size_toArray, List.length_cons, List.length_nil, Array.size_setIfInBounds]); (first | omega | exact of_decide_eq_true (by rfl))))) | exact Cel.rdsB (by with_reducible (repeat first | apply In.here | apply In.there)) (getML (d := (0 : UInt32)) (by ((try simp only [List.length_set, List.length_map, List.length_append, List.length_replicate, List.size_toArray, List.length_cons, List.length_nil, Array.size_setIfInBounds]); (first | omega | exact of_decide_eq_true (by rfl))))) | exact Cel.owns (by with_reducible (repeat first | apply In.here | apply In.there)) (getML (d := (0 : UInt32)) (by ((try simp only [List.length_set, List.length_map, List.length_append, List.length_replicate, List.size_toArray, List.length_cons, List.length_nil, Array.size_setIfInBounds]); (first | omega | exact of_decide_eq_true (by rfl))))) | exact Cel.reads (by assumption) (by with_reducible (repeat first | apply In.here | apply In.there)) (getML (d := (0 : UInt32)) (by ((try simp only [List.length_set, List.length_map, List.length_append, List.length_replicate, List.size_toArray, List.length_cons, List.length_nil, Array.size_setIfInBounds]); (first | omega | exact of_decide_eq_true (by rfl)))))) : Cel As p v := h
theorem ceo64 (h : Cel As p v := by first | exact Cel.blk (by with_reducible (repeat first | apply In.here | apply In.there)) (by first | exact getM (d := (0 : UInt64)) (by ((try simp only [List.length_set, List.length_map, List.length_append, List.length_replicate, List.size_toArray, List.length_cons, List.length_nil, Array.size_setIfInBounds]); (first | omega | exact of_decide_eq_true (by rfl)))) | rfl) | exact Cel.rblk (by with_reducible (repeat first | apply In.here | apply In.there)) (by first | exact getM (d := (0 : UInt64)) (by ((try simp only [List.length_set, List.length_map, List.length_append, List.length_replicate, List.size_toArray, List.length_cons, List.length_nil, Array.size_setIfInBounds]); (first | omega | exact of_decide_eq_true (by rfl)))) | rfl) | exact Cel.rds (by with_reducible (repeat first | apply In.here | apply In.there)) (getML (d := (0 : UInt64)) (by ((try simp only [List.length_set, List.length_map, List.length_append, List.length_replicate, List.size_toArray, List.length_cons, List.length_nil, Array.size_setIfInBounds]); (first | omega | exact of_decide_eq_true (by rfl))))) | exact Cel.rdsB (by with_reducible (repeat first | apply In.here | apply In.there)) (getML (d := (0 : UInt64)) (by ((try simp only [List.length_set, List.length_map, List.length_append, List.length_replicate, List.size_toArray, List.length_cons, List.length_nil, Array.size_setIfInBounds]); (first | omega | exact of_decide_eq_true (by rfl))))) | exact Cel.owns (by with_reducible (repeat first | apply In.here | apply In.there)) (getML (d := (0 : UInt64)) (by ((try simp only [List.length_set, List.length_map, List.length_append, List.length_replicate, List.size_toArray, List.length_cons, List.length_nil, Array.size_setIfInBounds]); (first | omega | exact of_decide_eq_true (by rfl))))) | exact Cel.reads (by assumption) (by with_reducible (repeat first | apply In.here | apply In.there)) (getML (d := (0 : UInt64)) (by ((try simp only [List.length_set, List.length_map, List.length_append, List.length_replicate, List.size_toArray, List.length_cons, List.length_nil, Array.size_setIfInBounds]); (first | omega | exact of_decide_eq_true (by rfl)))))) : Cel As p v := h
theorem ceoN (h : Cel As p v := by first | exact Cel.blk (by with_reducible (repeat first | apply In.here | apply In.there)) (by first | exact getM (d := (0 : Nat)) (by ((try simp only [List.length_set, List.length_map, List.length_append, List.length_replicate, List.size_toArray, List.length_cons, List.length_nil, Array.size_setIfInBounds]); (first | omega | exact of_decide_eq_true (by rfl)))) | rfl) | exact Cel.rblk (by with_reducible (repeat first | apply In.here | apply In.there)) (by first | exact getM (d := (0 : Nat)) (by ((try simp only [List.length_set, List.length_map, List.length_append, List.length_replicate, List.size_toArray, List.length_cons, List.length_nil, Array.size_setIfInBounds]); (first | omega | exact of_decide_eq_true (by rfl)))) | rfl) | exact Cel.rds (by with_reducible (repeat first | apply In.here | apply In.there)) (getML (d := (0 : Nat)) (by ((try simp only [List.length_set, List.length_map, List.length_append, List.length_replicate, List.size_toArray, List.length_cons, List.length_nil, Array.size_setIfInBounds]); (first | omega | exact of_decide_eq_true (by rfl))))) | exact Cel.rdsB (by with_reducible (repeat first | apply In.here | apply In.there)) (getML (d := (0 : Nat)) (by ((try simp only [List.length_set, List.length_map, List.length_append, List.length_replicate, List.size_toArray, List.length_cons, List.length_nil, Array.size_setIfInBounds]); (first | omega | exact of_decide_eq_true (by rfl))))) | exact Cel.owns (by with_reducible (repeat first | apply In.here | apply In.there)) (getML (d := (0 : Nat)) (by ((try simp only [List.length_set, List.length_map, List.length_append, List.length_replicate, List.size_toArray, List.length_cons, List.length_nil, Array.size_setIfInBounds]); (first | omega | exact of_decide_eq_true (by rfl))))) | exact Cel.reads (by assumption) (by with_reducible (repeat first | apply In.here | apply In.there)) (getML (d := (0 : Nat)) (by ((try simp only [List.length_set, List.length_map, List.length_append, List.length_replicate, List.size_toArray, List.length_cons, List.length_nil, Array.size_setIfInBounds]); (first | omega | exact of_decide_eq_true (by rfl)))))) : Cel As p v := h
theorem ceoD (h : Cel As p v := by first | exact Cel.blk (by with_reducible (repeat first | apply In.here | apply In.there)) (by first | exact getM (d := default) (by ((try simp only [List.length_set, List.length_map, List.length_append, List.length_replicate, List.size_toArray, List.length_cons, List.length_nil, Array.size_setIfInBounds]); (first | omega | exact of_decide_eq_true (by rfl)))) | rfl) | exact Cel.rblk (by with_reducible (repeat first | apply In.here | apply In.there)) (by first | exact getM (d := default) (by ((try simp only [List.length_set, List.length_map, List.length_append, List.length_replicate, List.size_toArray, List.length_cons, List.length_nil, Array.size_setIfInBounds]); (first | omega | exact of_decide_eq_true (by rfl)))) | rfl) | exact Cel.rds (by with_reducible (repeat first | apply In.here | apply In.there)) (getML (d := default) (by ((try simp only [List.length_set, List.length_map, List.length_append, List.length_replicate, List.size_toArray, List.length_cons, List.length_nil, Array.size_setIfInBounds]); (first | omega | exact of_decide_eq_true (by rfl))))) | exact Cel.rdsB (by with_reducible (repeat first | apply In.here | apply In.there)) (getML (d := default) (by ((try simp only [List.length_set, List.length_map, List.length_append, List.length_replicate, List.size_toArray, List.length_cons, List.length_nil, Array.size_setIfInBounds]); (first | omega | exact of_decide_eq_true (by rfl))))) | exact Cel.owns (by with_reducible (repeat first | apply In.here | apply In.there)) (getML (d := default) (by ((try simp only [List.length_set, List.length_map, List.length_append, List.length_replicate, List.size_toArray, List.length_cons, List.length_nil, Array.size_setIfInBounds]); (first | omega | exact of_decide_eq_true (by rfl))))) | exact Cel.reads (by assumption) (by with_reducible (repeat first | apply In.here | apply In.there)) (getML (d := default) (by ((try simp only [List.length_set, List.length_map, List.length_append, List.length_replicate, List.size_toArray, List.length_cons, List.length_nil, Array.size_setIfInBounds]); (first | omega | exact of_decide_eq_true (by rfl)))))) : Cel As p v := h
end
end Go.Proofs.Ytomplpdeeomehaa

/- The writer: its contracts. -/
namespace Go.Proofs.Ytomplpdeeomehaa
set_option linter.unusedVariables false
set_option linter.unusedSimpArgs false
open Go.RowKit
namespace wr
namespace FxWireW
set_option maxRecDepth 100000
theorem el85 : Elt Try.prog 85 5 1 1 (.int .u8 0) := ⟨Try.underlying85, by kernel_rfl, rfl, by decide, by simp [Value.cells, Value.oneCell']⟩
theorem sc85 : Program.isSc Try.prog 85 = true := by kernel_rfl
theorem sz85 : (Try.prog.info? 85).map (·.size) = some 1 := by kernel_rfl
end FxWireW
open FxWireW
/-- a writer's variable with bytes of its own -/
def W (b : Nat) (l : List UInt8) : SA := SA.ex fun x : Option Addr × Nat => SA.star (SA.blk b #[.slice x.1 l.length x.2] 85) (SA.owns 5 1 (.slice x.1 l.length x.2) l.length (l.map v8))
theorem mk {b n cap : Nat} {a : Option Addr} {l : List UInt8} {cs : List Value} {L : List SA} (hn : l.length = n) (hc : l.map v8 = cs) : Ent (SA.blk b #[.slice a n cap] 85 :: SA.owns 5 1 (.slice a n cap) n cs :: L) (W b l :: L) := by
  subst hn; subst hc
  exact Ent.unstarE.trans (Ent.exE (f := fun x : Option Addr × Nat => SA.star (SA.blk b #[.slice x.1 l.length x.2] 85) (SA.owns 5 1 (.slice x.1 l.length x.2) l.length (l.map v8))) (a, cap))
theorem put {b n cap : Nat} {a : Option Addr} {l : List UInt8} {cs : List Value} {cb : Array Value} {L L1 L2 L3 : List SA} (h1 : Pull (SA.blk b cb 85) L L1) (hb : cb = #[.slice a n cap]) (h2 : Pull (SA.owns 5 1 (.slice a n cap) n cs) L1 L2) (hn : l.length = n) (hc : l.map v8 = cs) (hE : Ent L2 L3) : Ent L (W b l :: L3) := by
  subst hb
  exact h1.ent.trans ((h2.ent.under _).trans ((mk hn hc).trans (hE.under _)))
theorem mk0 {b : Nat} {L : List SA} : Ent (SA.blk b #[.slice none 0 0] 85 :: L) (W b [] :: L) := (Ent.under _ (Ent.nilOwn _ _)).trans (mk rfl rfl)
def be16 (x : UInt16) : List UInt8 := [(shr16 x 8).toUInt8, x.toUInt8]
def be32 (x : UInt32) : List UInt8 := [(shr32 x 24).toUInt8, (shr32 x 16).toUInt8, (shr32 x 8).toUInt8, x.toUInt8]
theorem be16_len (x : UInt16) : (be16 x).length = 2 := rfl
theorem be32_len (x : UInt32) : (be32 x).length = 4 := rfl
--REG (*rostrum/wire.Writer).U16 : _ _ ⟨rfl, rfl⟩ => (wr.U16_fn _ {1} _ WL! _)
theorem U16_fn (b : Nat) (x : UInt16) (l : List UInt8) (hl : l.length ≤ 1099511627776) (L : List SA) : Fn Try.prog 53 [pt b 0, v16 x] (W b l :: L) (fun v L' => v = .tuple #[] ∧ L' = W b (l ++ be16 x) :: L) := by
  refine Fn.of (N := 16) Try.func53 rfl rfl ?_
  intro Xh
  refine TC.open pul ?_
  rintro ⟨a, cap⟩
  refine TC.split pul ?_
  refine TC.region ?_
  refine TL.val rfl rfl rfl (Y.move rfl rfl) ?_
  refine TL.val rfl rfl rfl (Y.move rfl rfl) ?_
  refine TL.val rfl rfl rfl (Y.nilCheck rfl rfl) ?_
  refine TL.val rfl rfl rfl (Y.load rfl sc85 rfl ceoD) ?_
  refine TL.val rfl rfl rfl (Y.move rfl rfl) ?_
  refine TL.val rfl rfl rfl (Y.bin rfl rfl rfl (br_shr16 (n := 8))) ?_
  refine TL.val rfl rfl rfl (Y.conv rfl Try.underlying40 Try.underlying5 rfl (cv_16_8)) ?_
  refine TL.val rfl rfl rfl (Y.move rfl rfl) ?_
  refine TL.val rfl rfl rfl (Y.conv rfl Try.underlying40 Try.underlying5 rfl (cv_16_8)) ?_
  refine TL.eff rfl rfl rfl (X.lit rfl el85 rfl rfl rfl (by decide) rfl) ?_
  rintro _ _ ⟨g13, rfl, rfl⟩
  refine TL.eff rfl rfl rfl (X.appendS rfl el85 rfl pul rfl (by first | exact Src.owns Try.underlying85 inn | exact Src.rds Try.underlying85 inn | exact Src.reads (by assumption) Try.underlying85 inn) (by simp only [maxLen]; omega) (by omega)) ?_
  rintro _ _ ⟨a14, c14, rfl, rfl⟩
  refine TL.val rfl rfl rfl (Y.nilCheck rfl rfl) ?_
  refine TL.eff0 rfl rfl (by first | exact X.store rfl sz85 rfl rfl rfl pul lnn (by first | exact setM | rfl) | exact X.storeOwn rfl sz85 rfl (Nat.zero_add _).symm rfl rfl pul lnn (by first | exact setML | rfl) | exact X.storeOwn rfl sz85 rfl rfl rfl rfl pul lnn (by first | exact setML | rfl)) ?_
  rintro _ _ rfl
  refine TL.nil ?_
  refine TQ.endE (res0 rfl) (⟨rfl, rfl⟩) ?_
  exact (put pul (by rfl) pul (by simp [be16]) (by simp [be16]) ett)
--REG (*rostrum/wire.Writer).U32 : _ _ ⟨rfl, rfl⟩ => (wr.U32_fn _ {1} _ WL! _)
theorem U32_fn (b : Nat) (x : UInt32) (l : List UInt8) (hl : l.length ≤ 1099511627776) (L : List SA) : Fn Try.prog 45 [pt b 0, v32 x] (W b l :: L) (fun v L' => v = .tuple #[] ∧ L' = W b (l ++ be32 x) :: L) := by
  refine Fn.of (N := 22) Try.func45 rfl rfl ?_
  intro Xh
  refine TC.open pul ?_
  rintro ⟨a, cap⟩
  refine TC.split pul ?_
  refine TC.region ?_
  refine TL.val rfl rfl rfl (Y.move rfl rfl) ?_
  refine TL.val rfl rfl rfl (Y.move rfl rfl) ?_
  refine TL.val rfl rfl rfl (Y.nilCheck rfl rfl) ?_
  refine TL.val rfl rfl rfl (Y.load rfl sc85 rfl ceoD) ?_
  refine TL.val rfl rfl rfl (Y.move rfl rfl) ?_
  refine TL.val rfl rfl rfl (Y.bin rfl rfl rfl (br_shr32 (n := 24))) ?_
  refine TL.val rfl rfl rfl (Y.conv rfl Try.underlying22 Try.underlying5 rfl (cv_32_8)) ?_
  refine TL.val rfl rfl rfl (Y.move rfl rfl) ?_
  refine TL.val rfl rfl rfl (Y.bin rfl rfl rfl (br_shr32 (n := 16))) ?_
  refine TL.val rfl rfl rfl (Y.conv rfl Try.underlying22 Try.underlying5 rfl (cv_32_8)) ?_
  refine TL.val rfl rfl rfl (Y.move rfl rfl) ?_
  refine TL.val rfl rfl rfl (Y.bin rfl rfl rfl (br_shr32 (n := 8))) ?_
  refine TL.val rfl rfl rfl (Y.conv rfl Try.underlying22 Try.underlying5 rfl (cv_32_8)) ?_
  refine TL.val rfl rfl rfl (Y.move rfl rfl) ?_
  refine TL.val rfl rfl rfl (Y.conv rfl Try.underlying22 Try.underlying5 rfl (cv_32_8)) ?_
  refine TL.eff rfl rfl rfl (X.lit rfl el85 rfl rfl rfl (by decide) rfl) ?_
  rintro _ _ ⟨g19, rfl, rfl⟩
  refine TL.eff rfl rfl rfl (X.appendS rfl el85 rfl pul rfl (by first | exact Src.owns Try.underlying85 inn | exact Src.rds Try.underlying85 inn | exact Src.reads (by assumption) Try.underlying85 inn) (by simp only [maxLen]; omega) (by omega)) ?_
  rintro _ _ ⟨a20, c20, rfl, rfl⟩
  refine TL.val rfl rfl rfl (Y.nilCheck rfl rfl) ?_
  refine TL.eff0 rfl rfl (by first | exact X.store rfl sz85 rfl rfl rfl pul lnn (by first | exact setM | rfl) | exact X.storeOwn rfl sz85 rfl (Nat.zero_add _).symm rfl rfl pul lnn (by first | exact setML | rfl) | exact X.storeOwn rfl sz85 rfl rfl rfl rfl pul lnn (by first | exact setML | rfl)) ?_
  rintro _ _ rfl
  refine TL.nil ?_
  refine TQ.endE (res0 rfl) (⟨rfl, rfl⟩) ?_
  exact (put pul (by rfl) pul (by simp [be32]) (by simp [be32]) ett)
--REG (*rostrum/wire.Writer).Bytes : _ _ ⟨rfl, rfl⟩ => (wr.BytesR_fn _ _ _ _ _ _ (by first | assumption | rfl | omega) WL! _)
theorem Bytes_fn (A : SA) (b n : Nat) (s : Option Addr) (cap : Nat) (l m : List UInt8) (hA : Reads A 1 (.slice s n cap) n (m.map v8)) (hn : m.length = n) (hl : l.length + n ≤ 1099511627776) (L : List SA) :
    Fn Try.prog 48 [pt b 0, .slice s n cap] (W b l :: A :: L) (fun v L' => v = .tuple #[] ∧ L' = W b (l ++ m) :: A :: L) := by
  subst hn
  refine Fn.of (N := 11) Try.func48 rfl rfl ?_
  intro Xh
  refine TC.open pul ?_
  rintro ⟨a, c⟩
  refine TC.split pul ?_
  refine TC.region ?_
  refine TL.val rfl rfl rfl (Y.move rfl rfl) ?_
  refine TL.val rfl rfl rfl (Y.move rfl rfl) ?_
  refine TL.val rfl rfl rfl (Y.nilCheck rfl rfl) ?_
  refine TL.val rfl rfl rfl (Y.load rfl sc85 rfl ceoD) ?_
  refine TL.val rfl rfl rfl (Y.move rfl rfl) ?_
  refine TL.eff rfl rfl rfl (X.appendS rfl el85 rfl pul rfl (Src.reads hA Try.underlying23 inn) (by simp only [maxLen]; omega) (by omega)) ?_
  rintro _ _ ⟨a9, c9, rfl, rfl⟩
  refine TL.val rfl rfl rfl (Y.nilCheck rfl rfl) ?_
  refine TL.eff0 rfl rfl (by first | exact X.store rfl sz85 rfl rfl rfl pul lnn (by first | exact setM | rfl) | exact X.storeOwn rfl sz85 rfl (Nat.zero_add _).symm rfl rfl pul lnn (by first | exact setML | rfl) | exact X.storeOwn rfl sz85 rfl rfl rfl rfl pul lnn (by first | exact setML | rfl)) ?_
  rintro _ _ rfl
  refine TL.nil ?_
  refine TQ.endE (res0 rfl) (⟨rfl, rfl⟩) ?_
  exact (put pul (by rfl) pul (by simp) (by simp) ett)
theorem BytesR_fn (b n : Nat) (s : Option Addr) (cap : Nat) (l m : List UInt8) (hn : m.length = n) (hl : l.length + n ≤ 1099511627776) (L : List SA) :
    Fn Try.prog 48 [pt b 0, .slice s n cap] (W b l :: SA.rds 1 (.slice s n cap) n (m.map v8) :: L) (fun v L' => v = .tuple #[] ∧ L' = W b (l ++ m) :: SA.rds 1 (.slice s n cap) n (m.map v8) :: L) := Bytes_fn _ b n s cap l m Reads.rds hn hl L
def pad4 (l : List UInt8) : List UInt8 := l ++ List.replicate ((4 - l.length % 4) % 4) 0
theorem pad4_length (l : List UInt8) : (pad4 l).length = l.length + (4 - l.length % 4) % 4 := by simp [pad4]
theorem pad4_mod (l : List UInt8) : (pad4 l).length % 4 = 0 := by rw [pad4_length]; omega
theorem pad4_head (h l : List UInt8) (hh : h.length % 4 = 0) : pad4 (h ++ l) = h ++ pad4 l := by
  have : (4 - (h ++ l).length % 4) % 4 = (4 - l.length % 4) % 4 := by simp; omega
  simp only [pad4, this, List.append_assoc]
theorem pad4_step (l : List UInt8) (h : l.length % 4 ≠ 0) : pad4 (l ++ [0]) = pad4 l := by
  have e : (4 - l.length % 4) % 4 = (4 - (l ++ [0]).length % 4) % 4 + 1 := by simp; omega
  simp only [pad4, e, List.replicate_succ]
  simp
theorem pad4_done (l : List UInt8) (h : l.length % 4 = 0) : pad4 l = l := by simp [pad4, h]
end wr
end Go.Proofs.Ytomplpdeeomehaa

/- The reader: its contracts; bytes.Clone. -/
namespace Go.Proofs.Ytomplpdeeomehaa
set_option linter.unusedVariables false
set_option linter.unusedSimpArgs false
open Go.RowKit
namespace rd
namespace FxWireR
set_option maxRecDepth 100000
theorem el23 : Elt Try.prog 23 5 1 1 (.int .u8 0) := ⟨Try.underlying23, by kernel_rfl, rfl, by decide, by simp [Value.cells, Value.oneCell']⟩
theorem fo89_0 : Program.fieldOff Try.prog 89 0 = some 0 := by kernel_rfl
theorem fo89_1 : Program.fieldOff Try.prog 89 1 = some 1 := by kernel_rfl
theorem pl89 : Program.places Try.prog 89 = some [(0, 1), (1, 1)] := by kernel_rfl
theorem sc23 : Program.isSc Try.prog 23 = true := by kernel_rfl
theorem sc4 : Program.isSc Try.prog 4 = true := by kernel_rfl
theorem sc5 : Program.isSc Try.prog 5 = true := by kernel_rfl
theorem sl23 : Program.slI Try.prog 23 = some 1 := by kernel_rfl
theorem sz23 : (Try.prog.info? 23).map (·.size) = some 1 := by kernel_rfl
theorem sz4 : (Try.prog.info? 4).map (·.size) = some 1 := by kernel_rfl
theorem sz5 : (Try.prog.info? 5).map (·.size) = some 1 := by kernel_rfl
theorem zc89 : Program.zeroC Try.prog 89 = some #[.slice none 0 0, .bool false] := by kernel_rfl
end FxWireR
open FxWireR
--REG bytes.Clone : _ _ ⟨a{d}, c{d}, rfl, rfl⟩ => (rd.Clone_fn _ _ _ _ (by first | assumption | rfl) (by omega) _)
theorem Clone_gen (A : SA) (a : Option Addr) (n cap : Nat) (l : List UInt8) (hA : Reads A 1 (.slice a n cap) n (l.map v8)) (hn : l.length = n) (hl : n ≤ 140737488351232) (L : List SA) :
    Fn Try.prog 25 [.slice a n cap] (A :: L) (fun v L' => ∃ a' c', v = .slice a' n c' ∧ L' = SA.owns 5 1 (.slice a' n c') n (l.map v8) :: A :: L) := by
  subst hn
  refine Fn.of (N := 8) Try.func25 rfl rfl ?_
  intro Xh
  refine TC.know (reads_cap hA inn) ?_
  rintro ⟨-, -, -, hnone⟩
  refine TC.seq ?_
  refine TC.region ?_
  refine TL.val rfl rfl rfl (Y.assign rfl rfl) ?_
  refine TL.nil ?_
  refine TQ.next ?_
  refine TC.seq ?_
  refine TC.seq ?_
  refine TC.region ?_
  refine TL.val rfl rfl rfl (Y.move rfl rfl) ?_
  refine TL.val rfl rfl rfl (Y.eqNilS rfl Try.underlying23 rfl rfl) ?_
  refine TL.nil ?_
  refine TQ.next ?_
  refine TC.cond rfl (fun c0 => ?_) (fun c0 => ?_)
  · try simp only [decide_eq_true_eq, decide_eq_false_iff_not, Bool.not_eq_true', Bool.not_eq_false', Bool.and_eq_true, Bool.or_eq_true, Nat.not_lt, Nat.not_le, beq_iff_eq, bne_iff_ne] at c0
    have ha : a = none := by cases a <;> simp_all
    have h0 := hnone ha
    obtain rfl : l = [] := List.eq_nil_of_length_eq_zero h0
    refine TC.to (Ent.nilOwn 5 1) ?_
    refine TC.seq ?_
    refine TC.region ?_
    refine TL.val rfl rfl rfl (Y.assign rfl rfl) ?_
    refine TL.nil ?_
    refine TQ.next ?_
    refine TC.ret ?_
    refine TQ.then_ret ?_
    refine TQ.retE (res1 rfl rfl) (⟨_, _, rfl, rfl⟩) ?_
    exact ett
  · try simp only [decide_eq_true_eq, decide_eq_false_iff_not, Bool.not_eq_true', Bool.not_eq_false', Bool.and_eq_true, Bool.or_eq_true, Nat.not_lt, Nat.not_le, beq_iff_eq, bne_iff_ne] at c0
    refine TC.skip ?_
    refine TQ.next ?_
    refine TC.seq ?_
    refine TC.region ?_
    refine TL.eff rfl rfl rfl (X.lit rfl el23 rfl rfl rfl (by decide) rfl) ?_
    rintro _ _ ⟨g5, rfl, rfl⟩
    refine TL.val rfl rfl rfl (Y.move rfl rfl) ?_
    refine TL.eff rfl rfl rfl (X.appendS rfl el23 rfl pul rfl (Src.reads hA Try.underlying23 inn) (by simp only [maxLen]; omega) (by omega)) ?_
    rintro _ _ ⟨a7, c7, rfl, rfl⟩
    simp only [Nat.zero_add, List.nil_append]
    refine TL.val rfl rfl rfl (Y.assign rfl rfl) ?_
    refine TL.nil ?_
    refine TQ.next ?_
    refine TC.ret ?_
    refine TQ.retE (res1 rfl rfl) (⟨_, _, rfl, rfl⟩) ?_
    exact ett
theorem Clone_fn (a : Option Addr) (n cap : Nat) (l : List UInt8) (hn : l.length = n) (hl : n ≤ 140737488351232) (L : List SA) :
    Fn Try.prog 25 [.slice a n cap] (SA.rds 1 (.slice a n cap) n (l.map v8) :: L) (fun v L' => ∃ a' c', v = .slice a' n c' ∧ L' = SA.owns 5 1 (.slice a' n c') n (l.map v8) :: SA.rds 1 (.slice a n cap) n (l.map v8) :: L) := Clone_gen _ a n cap l Reads.rds hn hl L
def rdB (k : Nat) (l : List UInt8) (bad : Bool) : Bool := bad || decide (l.length < k)
def rdL (k : Nat) (l : List UInt8) (bad : Bool) : List UInt8 := if rdB k l bad then l else l.drop k
def rdV (k : Nat) (l : List UInt8) (bad : Bool) : List UInt8 := if rdB k l bad then [] else l.take k
theorem rdV_len (k : Nat) (l : List UInt8) (bad : Bool) : (rdV k l bad).length ≤ l.length := by unfold rdV; split <;> simp <;> omega
theorem rdL_len (k : Nat) (l : List UInt8) (bad : Bool) : (rdL k l bad).length ≤ l.length := by unfold rdL; split <;> simp
/-- a reader with what is left -/
def R (b : Nat) (l : List UInt8) (bad : Bool) : SA := SA.ex fun x : Option Addr × Nat => SA.star (SA.blk b #[.slice x.1 l.length x.2, .bool bad] 89) (SA.rds 1 (.slice x.1 l.length x.2) l.length (l.map v8))
theorem put {b n cap : Nat} {bad : Bool} {a : Option Addr} {l : List UInt8} {cs : List Value} {cb : Array Value} {L L1 L2 L3 : List SA} (h1 : Pull (SA.blk b cb 89) L L1) (hb : cb = #[.slice a n cap, .bool bad]) (h2 : Pull (SA.rds 1 (.slice a n cap) n cs) L1 L2) (hn : l.length = n) (hc : l.map v8 = cs) (hE : Ent L2 L3) : Ent L (R b l bad :: L3) := by
  subst hb; subst hn; subst hc
  exact h1.ent.trans ((h2.ent.under _).trans ((Ent.unstarE.trans (Ent.exE (f := fun x : Option Addr × Nat => SA.star (SA.blk b #[.slice x.1 l.length x.2, .bool bad] 89) (SA.rds 1 (.slice x.1 l.length x.2) l.length (l.map v8))) (a, cap))).trans (hE.under _)))
--REG rostrum/wire.NewReader : _ _ ⟨p{d}, rfl, rfl⟩ => (rd.New_fn _ _ _ _ (by first | assumption | rfl) (by omega) _)
theorem New_gen (A : SA) (a : Option Addr) (n cap : Nat) (l : List UInt8) (hA : Reads A 1 (.slice a n cap) n (l.map v8)) (hn : l.length = n) (hl : n ≤ 140737488351232) (L : List SA) :
    Fn Try.prog 26 [.slice a n cap] (A :: L) (fun v L' => ∃ p, v = pt p 0 ∧ L' = R p l false :: A :: L) := by
  subst hn
  refine Fn.of (N := 7) Try.func26 rfl rfl ?_
  intro Xh
  refine TC.seq ?_
  refine TC.region ?_
  refine TL.val rfl rfl rfl (Y.assign rfl rfl) ?_
  refine TL.nil ?_
  refine TQ.next ?_
  refine TC.seq ?_
  refine TC.region ?_
  refine TL.val rfl rfl rfl (Y.move rfl rfl) ?_
  refine TL.eff rfl rfl rfl (X.call rfl Try.func25 (by kernel_rfl) rfl rfl (Fn.preE (by repeat first | (with_reducible apply Ent.refl) | (apply Ent.cons; case h => first | (with_reducible (repeat first | apply Pull.here | apply Pull.there); done) | (repeat first | apply Pull.here | apply Pull.there))) (Clone_gen A _ _ _ l hA rfl hl _))) ?_
  rintro _ _ ⟨a4, c4, rfl, rfl⟩
  refine TL.val rfl rfl rfl (Y.buildS rfl rfl pl89 zc89 rfl) ?_
  refine TL.eff rfl rfl rfl (X.boxA rfl rfl) ?_
  rintro _ _ ⟨b6, rfl, rfl⟩
  refine TL.val rfl rfl rfl (Y.assign rfl rfl) ?_
  refine TL.nil ?_
  refine TQ.next ?_
  refine TC.ret ?_
  refine TQ.retE (res1 rfl rfl) (⟨_, rfl, rfl⟩) ?_
  exact ((Pull.ent (A := SA.owns 5 1 (.slice a4 l.length c4) l.length (l.map v8)) pul).trans (Ent.freeze.trans (put pul (by rfl) pul rfl rfl ett)))
theorem New_fn (a : Option Addr) (n cap : Nat) (l : List UInt8) (hn : l.length = n) (hl : n ≤ 140737488351232) (L : List SA) :
    Fn Try.prog 26 [.slice a n cap] (SA.rds 1 (.slice a n cap) n (l.map v8) :: L) (fun v L' => ∃ p, v = pt p 0 ∧ L' = R p l false :: SA.rds 1 (.slice a n cap) n (l.map v8) :: L) := New_gen _ a n cap l Reads.rds hn hl L
--REG (*rostrum/wire.Reader).Left : _ _ ⟨rfl, rfl⟩ => (rd.Left_fn _ _ _ _)
theorem Left_fn (b : Nat) (l : List UInt8) (bad : Bool) (L : List SA) : Fn Try.prog 30 [pt b 0] (R b l bad :: L) (fun v L' => v = vN l.length ∧ L' = R b l bad :: L) := by
  refine Fn.of (N := 10) Try.func30 rfl rfl ?_
  intro Xh
  refine TC.open pul ?_
  rintro ⟨a, cap⟩
  refine TC.split pul ?_
  refine TC.seq ?_
  refine TC.region ?_
  refine TL.val rfl rfl rfl (Y.assign rfl rfl) ?_
  refine TL.nil ?_
  refine TQ.next ?_
  refine TC.seq ?_
  refine TC.seq ?_
  refine TC.region ?_
  refine TL.val rfl rfl rfl (Y.move rfl rfl) ?_
  refine TL.val rfl rfl rfl (by first | exact Y.eqNilP rfl Try.underlying69 rfl rfl | exact Y.eqNil0 rfl Try.underlying69 rfl rfl) ?_
  refine TL.nil ?_
  refine TQ.next ?_
  refine TC.cond_f rfl ?_
  refine TC.skip ?_
  refine TQ.next ?_
  refine TC.seq ?_
  refine TC.region ?_
  refine TL.val rfl rfl rfl (Y.move rfl rfl) ?_
  refine TL.val rfl rfl rfl (Y.nilCheck rfl rfl) ?_
  refine TL.val rfl rfl rfl (Y.fieldAddr rfl fo89_0 rfl nqq) ?_
  refine TL.val rfl rfl rfl (Y.load rfl sc23 rfl ceoD) ?_
  refine TL.val rfl rfl rfl (Y.len rfl Try.underlying23 rfl) ?_
  refine TL.val rfl rfl rfl (Y.assign rfl rfl) ?_
  refine TL.nil ?_
  refine TQ.next ?_
  refine TC.ret ?_
  refine TQ.retE (res1 rfl rfl) (⟨rfl, rfl⟩) ?_
  exact (put pul (by rfl) pul rfl rfl ett)
--REG (*rostrum/wire.Reader).Bad : _ _ ⟨rfl, rfl⟩ => (rd.Bad_fn _ _ _ _)
theorem Bad_fn (b : Nat) (l : List UInt8) (bad : Bool) (L : List SA) : Fn Try.prog 28 [pt b 0] (R b l bad :: L) (fun v L' => v = .bool bad ∧ L' = R b l bad :: L) := by
  refine Fn.of (N := 11) Try.func28 rfl rfl ?_
  intro Xh
  refine TC.open pul ?_
  rintro ⟨a, cap⟩
  refine TC.split pul ?_
  refine TC.seq ?_
  refine TC.region ?_
  refine TL.val rfl rfl rfl (Y.assign rfl rfl) ?_
  refine TL.nil ?_
  refine TQ.next ?_
  refine TC.seq ?_
  refine TC.region ?_
  refine TL.val rfl rfl rfl (Y.move rfl rfl) ?_
  refine TL.val rfl rfl rfl (by first | exact Y.eqNilP rfl Try.underlying69 rfl rfl | exact Y.eqNil0 rfl Try.underlying69 rfl rfl) ?_
  refine TL.val rfl rfl rfl (Y.move rfl rfl) ?_
  refine TL.valG rfl rfl rfl (Y.move rfl rfl) ?_
  refine TL.valG rfl rfl rfl (Y.nilCheck rfl rfl) ?_
  refine TL.valG rfl rfl rfl (Y.fieldAddr rfl fo89_1 rfl nqq) ?_
  refine TL.valG rfl rfl rfl (Y.load rfl sc4 rfl ceoD) ?_
  refine TL.val rfl rfl rfl (Y.pick_f rfl rfl rfl) ?_
  refine TL.val rfl rfl rfl (Y.assign rfl rfl) ?_
  refine TL.nil ?_
  refine TQ.next ?_
  refine TC.ret ?_
  refine TQ.retE (res1 rfl rfl) (⟨rfl, rfl⟩) ?_
  exact (put pul (by rfl) pul rfl rfl ett)
theorem cut_t (b k : Nat) (l : List UInt8) (hk : k < 9223372036854775808) (L : List SA) : Fn Try.prog 51 [pt b 0, vN k] (R b l true :: L) (fun v L' => v = .slice none 0 0 ∧ L' = R b l true :: L) := by
  refine Fn.of (N := 42) Try.func51 rfl rfl ?_
  intro Xh
  refine TC.seq ?_
  refine TC.region ?_
  refine TL.val rfl rfl rfl (Y.assign rfl rfl) ?_
  refine TL.nil ?_
  refine TQ.next ?_
  refine TC.seq ?_
  refine TC.seq ?_
  refine TC.region ?_
  refine TL.val rfl rfl rfl (Y.move rfl rfl) ?_
  refine TL.eff rfl rfl rfl (X.call rfl Try.func28 (by kernel_rfl) rfl rfl (Fn.preE (by repeat first | (with_reducible apply Ent.refl) | (apply Ent.cons; case h => first | (with_reducible (repeat first | apply Pull.here | apply Pull.there); done) | (repeat first | apply Pull.here | apply Pull.there))) (rd.Bad_fn _ _ _ _))) ?_
  rintro _ _ ⟨rfl, rfl⟩
  refine TL.val rfl rfl rfl (Y.move rfl rfl) ?_
  refine TL.not rfl rfl rfl ?_
  refine TL.not rfl rfl rfl ?_
  refine TL.val rfl rfl rfl (Y.pick_t rfl rfl rfl) ?_
  refine TL.val rfl rfl rfl (Y.move rfl rfl) ?_
  refine TL.not rfl rfl rfl ?_
  refine TL.not rfl rfl rfl ?_
  refine TL.not rfl rfl rfl ?_
  refine TL.not rfl rfl rfl ?_
  refine TL.not rfl rfl rfl ?_
  refine TL.not rfl rfl rfl ?_
  refine TL.not rfl rfl rfl ?_
  refine TL.val rfl rfl rfl (Y.pick_t rfl rfl rfl) ?_
  refine TL.nil ?_
  refine TQ.next ?_
  refine TC.cond_t rfl ?_
  refine TC.seq ?_
  refine TC.seq ?_
  refine TC.region ?_
  refine TL.val rfl rfl rfl (Y.move rfl rfl) ?_
  refine TL.val rfl rfl rfl (by first | exact Y.neNilP rfl Try.underlying69 rfl rfl | exact Y.neNil0 rfl Try.underlying69 rfl rfl) ?_
  refine TL.is true (by first | rfl | (simp only [decide_eq_true_eq, decide_eq_false_iff_not, Bool.not_eq_true', Bool.not_eq_false', Bool.not_eq_eq_eq_not, Bool.not_true, Bool.not_false, Nat.not_lt, Nat.not_le]; omega) | (simp [*]; done) | (simp; omega)) ?_
  refine TL.nil ?_
  refine TQ.next ?_
  refine TC.cond_t rfl ?_
  refine TC.open pul ?_
  rintro ⟨a, cap⟩
  refine TC.split pul ?_
  refine TC.region ?_
  refine TL.val rfl rfl rfl (Y.move rfl rfl) ?_
  refine TL.val rfl rfl rfl (Y.nilCheck rfl rfl) ?_
  refine TL.val rfl rfl rfl (Y.fieldAddr rfl fo89_1 rfl nqq) ?_
  refine TL.eff0 rfl rfl (by first | exact X.store rfl sz4 rfl rfl rfl pul lnn (by first | exact setM | rfl) | exact X.storeOwn rfl sz4 rfl (Nat.zero_add _).symm rfl rfl pul lnn (by first | exact setML | rfl) | exact X.storeOwn rfl sz4 rfl rfl rfl rfl pul lnn (by first | exact setML | rfl)) ?_
  rintro _ _ rfl
  refine TL.nil ?_
  refine TQ.next ?_
  refine TC.seq ?_
  refine TC.region ?_
  refine TL.val rfl rfl rfl (Y.assign rfl rfl) ?_
  refine TL.nil ?_
  refine TQ.next ?_
  refine TC.ret ?_
  refine TQ.then_ret ?_
  refine TQ.retE (res1 rfl rfl) (⟨rfl, rfl⟩) ?_
  exact (put pul (by rfl) pul rfl rfl ett)
theorem cut_s (b k : Nat) (l : List UInt8) (hk : k < 9223372036854775808) (hl : l.length < k) (L : List SA) : Fn Try.prog 51 [pt b 0, vN k] (R b l false :: L) (fun v L' => v = .slice none 0 0 ∧ L' = R b l true :: L) := by
  refine Fn.of (N := 42) Try.func51 rfl rfl ?_
  intro Xh
  refine TC.seq ?_
  refine TC.region ?_
  refine TL.val rfl rfl rfl (Y.assign rfl rfl) ?_
  refine TL.nil ?_
  refine TQ.next ?_
  refine TC.seq ?_
  refine TC.seq ?_
  refine TC.region ?_
  refine TL.val rfl rfl rfl (Y.move rfl rfl) ?_
  refine TL.eff rfl rfl rfl (X.call rfl Try.func28 (by kernel_rfl) rfl rfl (Fn.preE (by repeat first | (with_reducible apply Ent.refl) | (apply Ent.cons; case h => first | (with_reducible (repeat first | apply Pull.here | apply Pull.there); done) | (repeat first | apply Pull.here | apply Pull.there))) (rd.Bad_fn _ _ _ _))) ?_
  rintro _ _ ⟨rfl, rfl⟩
  refine TL.val rfl rfl rfl (Y.move rfl rfl) ?_
  refine TL.valG rfl rfl rfl (Y.move rfl rfl) ?_
  refine TL.valG rfl rfl rfl (Y.bin rfl rfl rfl (br_ltN (n := 0))) ?_
  refine TL.is false (by first | rfl | (simp only [decide_eq_true_eq, decide_eq_false_iff_not, Bool.not_eq_true', Bool.not_eq_false', Bool.not_eq_eq_eq_not, Bool.not_true, Bool.not_false, Nat.not_lt, Nat.not_le]; omega) | (simp [*]; done) | (simp; omega)) ?_
  refine TL.val rfl rfl rfl (Y.pick_f rfl rfl rfl) ?_
  refine TL.val rfl rfl rfl (Y.move rfl rfl) ?_
  refine TL.valG rfl rfl rfl (Y.move rfl rfl) ?_
  refine TL.open pul ?_
  rintro ⟨a, cap⟩
  refine TL.split pul ?_
  refine TL.valG rfl rfl rfl (Y.move rfl rfl) ?_
  refine TL.valG rfl rfl rfl (Y.nilCheck rfl rfl) ?_
  refine TL.valG rfl rfl rfl (Y.fieldAddr rfl fo89_0 rfl nqq) ?_
  refine TL.valG rfl rfl rfl (Y.load rfl sc23 rfl ceoD) ?_
  refine TL.valG rfl rfl rfl (Y.len rfl Try.underlying23 rfl) ?_
  refine TL.valG rfl rfl rfl (Y.bin rfl rfl rfl (br_gtN)) ?_
  refine TL.is true (by first | rfl | (simp only [decide_eq_true_eq, decide_eq_false_iff_not, Bool.not_eq_true', Bool.not_eq_false', Bool.not_eq_eq_eq_not, Bool.not_true, Bool.not_false, Nat.not_lt, Nat.not_le]; omega) | (simp [*]; done) | (simp; omega)) ?_
  refine TL.val rfl rfl rfl (Y.pick_f rfl rfl rfl) ?_
  refine TL.nil ?_
  refine TQ.next ?_
  refine TC.cond_t rfl ?_
  refine TC.seq ?_
  refine TC.seq ?_
  refine TC.region ?_
  refine TL.val rfl rfl rfl (Y.move rfl rfl) ?_
  refine TL.val rfl rfl rfl (by first | exact Y.neNilP rfl Try.underlying69 rfl rfl | exact Y.neNil0 rfl Try.underlying69 rfl rfl) ?_
  refine TL.is true (by first | rfl | (simp only [decide_eq_true_eq, decide_eq_false_iff_not, Bool.not_eq_true', Bool.not_eq_false', Bool.not_eq_eq_eq_not, Bool.not_true, Bool.not_false, Nat.not_lt, Nat.not_le]; omega) | (simp [*]; done) | (simp; omega)) ?_
  refine TL.nil ?_
  refine TQ.next ?_
  refine TC.cond_t rfl ?_
  refine TC.region ?_
  refine TL.val rfl rfl rfl (Y.move rfl rfl) ?_
  refine TL.val rfl rfl rfl (Y.nilCheck rfl rfl) ?_
  refine TL.val rfl rfl rfl (Y.fieldAddr rfl fo89_1 rfl nqq) ?_
  refine TL.eff0 rfl rfl (by first | exact X.store rfl sz4 rfl rfl rfl pul lnn (by first | exact setM | rfl) | exact X.storeOwn rfl sz4 rfl (Nat.zero_add _).symm rfl rfl pul lnn (by first | exact setML | rfl) | exact X.storeOwn rfl sz4 rfl rfl rfl rfl pul lnn (by first | exact setML | rfl)) ?_
  rintro _ _ rfl
  refine TL.nil ?_
  refine TQ.next ?_
  refine TC.seq ?_
  refine TC.region ?_
  refine TL.val rfl rfl rfl (Y.assign rfl rfl) ?_
  refine TL.nil ?_
  refine TQ.next ?_
  refine TC.ret ?_
  refine TQ.then_ret ?_
  refine TQ.retE (res1 rfl rfl) (⟨rfl, rfl⟩) ?_
  exact (put pul (by rfl) pul rfl rfl ett)
theorem cut_o (b k : Nat) (l : List UInt8) (hk : k < 9223372036854775808) (hl : k ≤ l.length) (L : List SA) : Fn Try.prog 51 [pt b 0, vN k] (R b l false :: L)
    (fun v L' => ∃ a c, v = .slice a k c ∧ L' = SA.rds 1 (.slice a k c) k ((l.take k).map v8) :: R b (l.drop k) false :: L) := by
  refine Fn.of (N := 42) Try.func51 rfl rfl ?_
  intro Xh
  refine TC.seq ?_
  refine TC.region ?_
  refine TL.val rfl rfl rfl (Y.assign rfl rfl) ?_
  refine TL.nil ?_
  refine TQ.next ?_
  refine TC.seq ?_
  refine TC.seq ?_
  refine TC.region ?_
  refine TL.val rfl rfl rfl (Y.move rfl rfl) ?_
  refine TL.eff rfl rfl rfl (X.call rfl Try.func28 (by kernel_rfl) rfl rfl (Fn.preE (by repeat first | (with_reducible apply Ent.refl) | (apply Ent.cons; case h => first | (with_reducible (repeat first | apply Pull.here | apply Pull.there); done) | (repeat first | apply Pull.here | apply Pull.there))) (rd.Bad_fn _ _ _ _))) ?_
  rintro _ _ ⟨rfl, rfl⟩
  refine TL.val rfl rfl rfl (Y.move rfl rfl) ?_
  refine TL.valG rfl rfl rfl (Y.move rfl rfl) ?_
  refine TL.valG rfl rfl rfl (Y.bin rfl rfl rfl (br_ltN (n := 0))) ?_
  refine TL.is false (by first | rfl | (simp only [decide_eq_true_eq, decide_eq_false_iff_not, Bool.not_eq_true', Bool.not_eq_false', Bool.not_eq_eq_eq_not, Bool.not_true, Bool.not_false, Nat.not_lt, Nat.not_le]; omega) | (simp [*]; done) | (simp; omega)) ?_
  refine TL.val rfl rfl rfl (Y.pick_f rfl rfl rfl) ?_
  refine TL.val rfl rfl rfl (Y.move rfl rfl) ?_
  refine TL.valG rfl rfl rfl (Y.move rfl rfl) ?_
  refine TL.open pul ?_
  rintro ⟨a, cap⟩
  refine TL.split pul ?_
  refine TL.valG rfl rfl rfl (Y.move rfl rfl) ?_
  refine TL.valG rfl rfl rfl (Y.nilCheck rfl rfl) ?_
  refine TL.valG rfl rfl rfl (Y.fieldAddr rfl fo89_0 rfl nqq) ?_
  refine TL.valG rfl rfl rfl (Y.load rfl sc23 rfl ceoD) ?_
  refine TL.valG rfl rfl rfl (Y.len rfl Try.underlying23 rfl) ?_
  refine TL.valG rfl rfl rfl (Y.bin rfl rfl rfl (br_gtN)) ?_
  refine TL.is false (by first | rfl | (simp only [decide_eq_true_eq, decide_eq_false_iff_not, Bool.not_eq_true', Bool.not_eq_false', Bool.not_eq_eq_eq_not, Bool.not_true, Bool.not_false, Nat.not_lt, Nat.not_le]; omega) | (simp [*]; done) | (simp; omega)) ?_
  refine TL.val rfl rfl rfl (Y.pick_f rfl rfl rfl) ?_
  refine TL.nil ?_
  refine TQ.next ?_
  refine TC.cond_f rfl ?_
  refine TC.skip ?_
  refine TQ.next ?_
  refine TC.seq ?_
  refine TC.know (reads_cap Reads.rds (a := a) (n := l.length) (cap := cap) (cs := l.map v8) inn) ?_
  rintro ⟨hc1, hc2, -, -⟩
  refine TC.region ?_
  refine TL.val rfl rfl rfl (Y.move rfl rfl) ?_
  refine TL.val rfl rfl rfl (Y.nilCheck rfl rfl) ?_
  refine TL.val rfl rfl rfl (Y.fieldAddr rfl fo89_0 rfl nqq) ?_
  refine TL.val rfl rfl rfl (Y.load rfl sc23 rfl ceoD) ?_
  refine TL.val rfl rfl rfl (Y.move rfl rfl) ?_
  refine TL.val rfl rfl rfl (Y.sliceHi2 rfl Try.underlying23 sz5 rfl rfl (by omega)) ?_
  refine TL.val rfl rfl rfl (Y.assign rfl rfl) ?_
  refine TL.nil ?_
  refine TQ.next ?_
  refine TC.seq ?_
  refine TC.region ?_
  refine TL.val rfl rfl rfl (Y.move rfl rfl) ?_
  refine TL.val rfl rfl rfl (Y.move rfl rfl) ?_
  refine TL.val rfl rfl rfl (Y.nilCheck rfl rfl) ?_
  refine TL.val rfl rfl rfl (Y.fieldAddr rfl fo89_0 rfl nqq) ?_
  refine TL.val rfl rfl rfl (Y.load rfl sc23 rfl ceoD) ?_
  refine TL.val rfl rfl rfl (Y.move rfl rfl) ?_
  refine TL.val rfl rfl rfl (Y.sliceLo rfl Try.underlying23 sz5 rfl rfl (by omega)) ?_
  refine TL.val rfl rfl rfl (Y.nilCheck rfl rfl) ?_
  refine TL.val rfl rfl rfl (Y.fieldAddr rfl fo89_0 rfl nqq) ?_
  refine TL.eff0 rfl rfl (by first | exact X.store rfl sz23 rfl rfl rfl pul lnn (by first | exact setM | rfl) | exact X.storeOwn rfl sz23 rfl (Nat.zero_add _).symm rfl rfl pul lnn (by first | exact setML | rfl) | exact X.storeOwn rfl sz23 rfl rfl rfl rfl pul lnn (by first | exact setML | rfl)) ?_
  rintro _ _ rfl
  refine TL.nil ?_
  refine TQ.next ?_
  refine TC.seq ?_
  refine TC.region ?_
  refine TL.val rfl rfl rfl (Y.move rfl rfl) ?_
  refine TL.val rfl rfl rfl (Y.assign rfl rfl) ?_
  refine TL.nil ?_
  refine TQ.next ?_
  refine TC.ret ?_
  refine TQ.retE (res1 rfl rfl) (⟨_, _, rfl, rfl⟩) ?_
  exact ((Pull.ent (A := SA.rds 1 (.slice a l.length cap) l.length (l.map v8)) pul).trans ((Ent.cutRds hl).trans (Ent.under _ (put pul (by rfl) (l := l.drop k) (by first | exact Pull.here | exact Pull.there .here) (by simp) rfl ett))))
--REG (*rostrum/wire.Reader).cut : _ _ ⟨a{d}, c{d}, rfl, rfl⟩ => (rd.cut_fn _ {1} _ _ (by omega) _)
theorem cut_fn (b k : Nat) (l : List UInt8) (bad : Bool) (hk : k < 9223372036854775808) (L : List SA) : Fn Try.prog 51 [pt b 0, vN k] (R b l bad :: L)
    (fun v L' => ∃ a c, v = .slice a (rdV k l bad).length c ∧ L' = SA.rds 1 (.slice a (rdV k l bad).length c) (rdV k l bad).length ((rdV k l bad).map v8) :: R b (rdL k l bad) (rdB k l bad) :: L) := by
  have nilR : ∀ M : List SA, Ent M (SA.rds 1 (.slice none 0 0) 0 (([] : List UInt8).map v8) :: M) := fun M => (Ent.nilOwn 0 1).trans Ent.freeze
  by_cases hB : rdB k l bad = true
  · have e1 : rdV k l bad = [] := by simp [rdV, hB]
    have e2 : rdL k l bad = l := by simp [rdL, hB]
    rw [e1, e2, hB]
    cases bad with
    | true => exact (cut_t b k l hk L).mono fun v L' ⟨h1, h2⟩ => ⟨_, nilR _, none, 0, h1, by rw [h2]; rfl⟩
    | false => exact (cut_s b k l hk (by simpa [rdB] using hB) L).mono fun v L' ⟨h1, h2⟩ => ⟨_, nilR _, none, 0, h1, by rw [h2]; rfl⟩
  · have hB' : bad = false ∧ k ≤ l.length := by simpa [rdB] using hB
    obtain ⟨rfl, hl⟩ := hB'
    have e0 : rdB k l false = false := by simpa using hB
    have e1 : rdV k l false = l.take k := by simp [rdV, e0]
    have e2 : rdL k l false = l.drop k := by simp [rdL, e0]
    rw [e1, e2, e0, List.length_take, Nat.min_eq_left hl]
    exact cut_o b k l hk hl L
def num1 (x : UInt32) (c : UInt8) : UInt32 := shl32 x 8 ||| c.toUInt32
def num (l : List UInt8) : UInt32 := l.foldl num1 0
def numK (l : List UInt8) (k : Nat) : UInt32 := num (l.take k)
theorem numK_s (l : List UInt8) (k : Nat) (h : k < l.length) : numK l (k + 1) = num1 (numK l k) (l.getD k 0) := by
  unfold numK num
  rw [List.take_add_one, List.foldl_append, List.getD_eq_getElem?_getD, List.getElem?_eq_getElem h]
  rfl
theorem numK_all (l : List UInt8) : numK l l.length = num l := by rw [numK, List.take_length]
--REG (*rostrum/wire.Reader).number : _ _ ⟨rfl, rfl⟩ => (rd.number_fn _ {1} _ _ (by omega) _)
theorem number_fn (b k : Nat) (l : List UInt8) (bad : Bool) (hk : k ≤ 8) (L : List SA) : Fn Try.prog 47 [pt b 0, vN k] (R b l bad :: L)
    (fun v L' => v = v32 (num (rdV k l bad)) ∧ L' = R b (rdL k l bad) (rdB k l bad) :: L) := by
  have hV : (rdV k l bad).length ≤ 8 := by unfold rdV; split <;> simp <;> omega
  refine Fn.of (N := 23) Try.func47 rfl rfl ?_
  intro Xh
  refine TC.seq ?_
  refine TC.region ?_
  refine TL.val rfl rfl rfl (Y.assign rfl rfl) ?_
  refine TL.nil ?_
  refine TQ.next ?_
  refine TC.seq ?_
  refine TC.region ?_
  refine TL.val rfl rfl rfl (Y.assign rfl rfl) ?_
  refine TL.nil ?_
  refine TQ.next ?_
  refine TC.seq ?_
  refine TC.seq ?_
  refine TC.region ?_
  refine TL.val rfl rfl rfl (Y.move rfl rfl) ?_
  refine TL.val rfl rfl rfl (Y.move rfl rfl) ?_
  refine TL.eff rfl rfl rfl (X.call rfl Try.func51 (by kernel_rfl) rfl rfl (Fn.preE (by repeat first | (with_reducible apply Ent.refl) | (apply Ent.cons; case h => first | (with_reducible (repeat first | apply Pull.here | apply Pull.there); done) | (repeat first | apply Pull.here | apply Pull.there))) (rd.cut_fn _ _ _ _ (by omega) _))) ?_
  rintro _ _ ⟨a10, c10, rfl, rfl⟩
  generalize rdV k l bad = V at hV ⊢
  refine TL.val rfl rfl rfl (Y.len rfl Try.underlying23 rfl) ?_
  refine TL.val rfl rfl rfl (Y.move rfl rfl) ?_
  refine TL.nil ?_
  refine TQ.next ?_
  refine TC.block ?_
  refine TC.loopF (ι := Nat) [] (fun j => j ≤ V.length) (fun j => [(12, some (vN j)), (5, some (v32 (numK V j)))]) (fun j => []) (fun j => V.length - j) (0) (by omega) ⟨rfl, rfl, trivial⟩ Pulls.nil ?_
  rintro j hj F' L' rfl hL'
  simp only [List.cons_append, List.nil_append] at hL'
  subst hL'
  refine TC.seq ?_
  refine TC.region ?_
  refine TL.val rfl rfl rfl (Y.bin rfl rfl rfl (br_ltN)) ?_
  refine TL.nil ?_
  refine TQ.next ?_
  refine TC.seq ?_
  refine TC.cond rfl (fun c0 => ?_) (fun c0 => ?_)
  · try simp only [decide_eq_true_eq, decide_eq_false_iff_not, Bool.not_eq_true', Bool.not_eq_false', Bool.and_eq_true, Bool.or_eq_true, Nat.not_lt, Nat.not_le, beq_iff_eq, bne_iff_ne] at c0
    refine TC.skip ?_
    refine TQ.next ?_
    refine TC.seq ?_
    refine TC.block ?_
    refine TC.seq ?_
    refine TC.know (reads_some (Reads.rds (v := .slice a10 V.length c10)) inn (by omega) (by omega)) ?_
    rintro ⟨g, off, rfl⟩
    refine TC.region ?_
    refine TL.val rfl rfl rfl (by first | exact Y.indexSlB rfl sl23 rfl rfl (by omega) nqq | exact Y.indexSl rfl sl23 rfl rfl (by omega) nqq) ?_
    refine TL.val rfl rfl rfl (Y.load rfl sc5 rfl ceo8) ?_
    refine TL.val rfl rfl rfl (Y.assign rfl rfl) ?_
    refine TL.nil ?_
    refine TQ.next ?_
    refine TC.region ?_
    refine TL.val rfl rfl rfl (Y.move rfl rfl) ?_
    refine TL.val rfl rfl rfl (Y.bin rfl rfl rfl (br_shl32 (n := 8))) ?_
    refine TL.val rfl rfl rfl (Y.move rfl rfl) ?_
    refine TL.val rfl rfl rfl (Y.conv rfl Try.underlying5 Try.underlying22 rfl (cv_8_32)) ?_
    refine TL.val rfl rfl rfl (Y.bin rfl rfl rfl (br_or32)) ?_
    refine TL.val rfl rfl rfl (Y.assign rfl rfl) ?_
    refine TL.nil ?_
    refine TQ.block_normal ?_
    refine TQ.next ?_
    refine TC.region ?_
    refine TL.val rfl rfl rfl (Y.bin rfl rfl rfl (br_addN (n := 1) (by omega))) ?_
    refine TL.val rfl rfl rfl (Y.move rfl rfl) ?_
    refine TL.nil ?_
    rw [show shl32 (numK V j) 8 ||| (V.getD j 0).toUInt32 = numK V (j + 1) from (numK_s V j (by omega)).symm]
    refine TQ.loopF (j + 1) (by omega) (by omega) ⟨rfl, rfl, trivial⟩ (by (repeat first | apply Grow.refl | apply Grow.step | apply Grow.app)) ?_ ?_ ?_
    · kernel_rfl
    · rfl
    · simp only [List.cons_append, List.nil_append]
      exact ett
  · try simp only [decide_eq_true_eq, decide_eq_false_iff_not, Bool.not_eq_true', Bool.not_eq_false', Bool.and_eq_true, Bool.or_eq_true, Nat.not_lt, Nat.not_le, beq_iff_eq, bne_iff_ne] at c0
    refine TC.exit ?_
    refine TQ.then_exit ?_
    refine TQ.then_exit ?_
    refine TQ.block_exit ?_
    refine TQ.next ?_
    refine TC.seq ?_
    refine TC.region ?_
    refine TL.val rfl rfl rfl (Y.move rfl rfl) ?_
    refine TL.val rfl rfl rfl (Y.assign rfl rfl) ?_
    refine TL.nil ?_
    refine TQ.next ?_
    refine TC.ret ?_
    refine TQ.retE (res1 rfl rfl) (⟨by rw [show j = V.length by omega, numK_all], rfl⟩) ?_
    exact ett
--REG (*rostrum/wire.Reader).U8 : _ _ ⟨rfl, rfl⟩ => (rd.U8_fn _ _ _ _)
--REG (*rostrum/wire.Reader).U16 : _ _ ⟨rfl, rfl⟩ => (rd.U16_fn _ _ _ _)
theorem U16_fn (b : Nat) (l : List UInt8) (bad : Bool) (L : List SA) : Fn Try.prog 34 [pt b 0] (R b l bad :: L) (fun v L' => v = v16 (num (rdV 2 l bad)).toUInt16 ∧ L' = R b (rdL 2 l bad) (rdB 2 l bad) :: L) := by
  refine Fn.of (N := 6) Try.func34 rfl rfl ?_
  intro Xh
  refine TC.seq ?_
  refine TC.region ?_
  refine TL.val rfl rfl rfl (Y.assign rfl rfl) ?_
  refine TL.nil ?_
  refine TQ.next ?_
  refine TC.seq ?_
  refine TC.region ?_
  refine TL.val rfl rfl rfl (Y.move rfl rfl) ?_
  refine TL.eff rfl rfl rfl (X.call rfl Try.func47 (by kernel_rfl) rfl rfl (Fn.preE (by repeat first | (with_reducible apply Ent.refl) | (apply Ent.cons; case h => first | (with_reducible (repeat first | apply Pull.here | apply Pull.there); done) | (repeat first | apply Pull.here | apply Pull.there))) (rd.number_fn _ 2 _ _ (by omega) _))) ?_
  rintro _ _ ⟨rfl, rfl⟩
  refine TL.val rfl rfl rfl (Y.conv rfl Try.underlying22 Try.underlying40 rfl (cv_32_16)) ?_
  refine TL.val rfl rfl rfl (Y.assign rfl rfl) ?_
  refine TL.nil ?_
  refine TQ.next ?_
  refine TC.ret ?_
  refine TQ.retE (res1 rfl rfl) (⟨rfl, rfl⟩) ?_
  exact ett
--REG (*rostrum/wire.Reader).U32 : _ _ ⟨rfl, rfl⟩ => (rd.U32_fn _ _ _ _)
theorem U32_fn (b : Nat) (l : List UInt8) (bad : Bool) (L : List SA) : Fn Try.prog 27 [pt b 0] (R b l bad :: L) (fun v L' => v = v32 (num (rdV 4 l bad)) ∧ L' = R b (rdL 4 l bad) (rdB 4 l bad) :: L) := by
  refine Fn.of (N := 5) Try.func27 rfl rfl ?_
  intro Xh
  refine TC.seq ?_
  refine TC.region ?_
  refine TL.val rfl rfl rfl (Y.assign rfl rfl) ?_
  refine TL.nil ?_
  refine TQ.next ?_
  refine TC.seq ?_
  refine TC.region ?_
  refine TL.val rfl rfl rfl (Y.move rfl rfl) ?_
  refine TL.eff rfl rfl rfl (X.call rfl Try.func47 (by kernel_rfl) rfl rfl (Fn.preE (by repeat first | (with_reducible apply Ent.refl) | (apply Ent.cons; case h => first | (with_reducible (repeat first | apply Pull.here | apply Pull.there); done) | (repeat first | apply Pull.here | apply Pull.there))) (rd.number_fn _ 4 _ _ (by omega) _))) ?_
  rintro _ _ ⟨rfl, rfl⟩
  refine TL.val rfl rfl rfl (Y.assign rfl rfl) ?_
  refine TL.nil ?_
  refine TQ.next ?_
  refine TC.ret ?_
  refine TQ.retE (res1 rfl rfl) (⟨rfl, rfl⟩) ?_
  exact ett
--REG (*rostrum/wire.Reader).Take : _ _ ⟨a{d}, c{d}, rfl, rfl⟩ => (rd.Take_fn _ {1} _ _ (by omega) (by omega) _)
theorem Take_fn (b k : Nat) (l : List UInt8) (bad : Bool) (hk : k < 9223372036854775808) (hl : l.length ≤ 140737488351232) (L : List SA) : Fn Try.prog 35 [pt b 0, vN k] (R b l bad :: L)
    (fun v L' => ∃ a c, v = .slice a (rdV k l bad).length c ∧ L' = SA.owns 5 1 (.slice a (rdV k l bad).length c) (rdV k l bad).length ((rdV k l bad).map v8) :: R b (rdL k l bad) (rdB k l bad) :: L) := by
  have hV := rdV_len k l bad
  refine Fn.of (N := 9) Try.func35 rfl rfl ?_
  intro Xh
  refine TC.seq ?_
  refine TC.region ?_
  refine TL.val rfl rfl rfl (Y.assign rfl rfl) ?_
  refine TL.nil ?_
  refine TQ.next ?_
  refine TC.seq ?_
  refine TC.region ?_
  refine TL.val rfl rfl rfl (Y.move rfl rfl) ?_
  refine TL.val rfl rfl rfl (Y.move rfl rfl) ?_
  refine TL.eff rfl rfl rfl (X.call rfl Try.func51 (by kernel_rfl) rfl rfl (Fn.preE (by repeat first | (with_reducible apply Ent.refl) | (apply Ent.cons; case h => first | (with_reducible (repeat first | apply Pull.here | apply Pull.there); done) | (repeat first | apply Pull.here | apply Pull.there))) (rd.cut_fn _ _ _ _ (by omega) _))) ?_
  rintro _ _ ⟨a7, c7, rfl, rfl⟩
  refine TL.eff rfl rfl rfl (X.call rfl Try.func25 (by kernel_rfl) rfl rfl (Fn.preE (by repeat first | (with_reducible apply Ent.refl) | (apply Ent.cons; case h => first | (with_reducible (repeat first | apply Pull.here | apply Pull.there); done) | (repeat first | apply Pull.here | apply Pull.there))) (rd.Clone_fn _ _ _ _ (by first | assumption | rfl) (by omega) _))) ?_
  rintro _ _ ⟨a8, c8, rfl, rfl⟩
  refine TL.val rfl rfl rfl (Y.assign rfl rfl) ?_
  refine TL.nil ?_
  refine TQ.next ?_
  refine TC.ret ?_
  refine TQ.retE (res1 rfl rfl) (⟨_, _, rfl, rfl⟩) ?_
  exact ett
end rd
end Go.Proofs.Ytomplpdeeomehaa

/- The rotations. -/
namespace Go.Proofs.Ytomplpdeeomehaa
set_option linter.unusedVariables false
set_option linter.unusedSimpArgs false
open Go.RowKit
namespace rot
--FACTS
def rotl (x : UInt32) (n : Nat) : UInt32 := shl32 x n ||| shr32 x (32 - n)
end rot
end Go.Proofs.Ytomplpdeeomehaa

/- The block of SHA-1, as the program has it. -/
namespace Go.Proofs.Ytomplpdeeomehaa
set_option linter.unusedVariables false
set_option linter.unusedSimpArgs false
open Go.RowKit
namespace sha
open rot
theorem low5 (n : Nat) (hn : n < 32) : (UInt64.ofNat n &&& 31).toNat = n := by
  have h := Nat.and_two_pow_sub_one_eq_mod n 5
  simp only [Nat.reducePow, Nat.reduceSub] at h
  rw [UInt64.toNat_and]
  simp only [UInt64.toNat_ofNat', UInt64.reduceToNat, Nat.reducePow]
  rw [Nat.mod_eq_of_lt (by omega), h]; omega
theorem low5s (n : Nat) (hn : n < 32) : ((32 : UInt64) - (UInt64.ofNat n &&& 31)).toNat = 32 - n := by
  rw [UInt64.toNat_sub, low5 n hn]
  simp only [UInt64.reduceToNat, Nat.reducePow]; omega
namespace FxShaBlock
set_option maxRecDepth 100000
theorem ag111 : Program.aggN Try.prog 111 = some 80 := by kernel_rfl
theorem ar109 : Program.arrI Try.prog 109 = some (5, 1) := by kernel_rfl
theorem ar111 : Program.arrI Try.prog 111 = some (80, 1) := by kernel_rfl
theorem sc22 : Program.isSc Try.prog 22 = true := by kernel_rfl
theorem sc5 : Program.isSc Try.prog 5 = true := by kernel_rfl
theorem sl23 : Program.slI Try.prog 23 = some 1 := by kernel_rfl
theorem sz22 : (Try.prog.info? 22).map (·.size) = some 1 := by kernel_rfl
theorem zc108 : Program.zeroC Try.prog 108 = some ((List.replicate 5 (0 : UInt32)).map v32).toArray := by kernel_rfl
theorem zc111 : Program.zeroC Try.prog 111 = some ((List.replicate 80 (0 : UInt32)).map v32).toArray := by kernel_rfl
end FxShaBlock
open FxShaBlock
theorem bits_fn (x : UInt32) (n : Nat) (hn : n < 32) (L : List SA) : Fn Try.prog 58 [v32 x, vN n] L (fun v L' => v = v32 (rotl x n) ∧ L' = L) := by
  refine Fn.of (N := 17) Try.func58 rfl rfl ?_
  intro Xh
  refine TC.seq ?_
  refine TC.region ?_
  refine TL.val rfl rfl rfl (Y.assign rfl rfl) ?_
  refine TL.nil ?_
  refine TQ.next ?_
  refine TC.seq ?_
  refine TC.region ?_
  refine TL.val rfl rfl rfl (Y.move rfl rfl) ?_
  refine TL.val rfl rfl rfl (Y.conv rfl Try.underlying3 Try.underlying56 rfl cv_N_64) ?_
  refine TL.val rfl rfl rfl (Y.bin rfl rfl rfl (br_and64 (y := 31))) ?_
  refine TL.val rfl rfl rfl (Y.assign rfl rfl) ?_
  refine TL.nil ?_
  refine TQ.next ?_
  refine TC.seq ?_
  refine TC.region ?_
  refine TL.val rfl rfl rfl (Y.move rfl rfl) ?_
  refine TL.val rfl rfl rfl (Y.move rfl rfl) ?_
  refine TL.val rfl rfl rfl (Y.bin rfl rfl rfl (br_shl32)) ?_
  refine TL.val rfl rfl rfl (Y.move rfl rfl) ?_
  refine TL.val rfl rfl rfl (Y.move rfl rfl) ?_
  refine TL.val rfl rfl rfl (Y.bin rfl rfl rfl (br_sub64 (x := 32))) ?_
  refine TL.val rfl rfl rfl (Y.bin rfl rfl rfl (br_shr32)) ?_
  refine TL.val rfl rfl rfl (Y.bin rfl rfl rfl (br_or32)) ?_
  refine TL.val rfl rfl rfl (Y.assign rfl rfl) ?_
  refine TL.nil ?_
  refine TQ.next ?_
  refine TC.ret ?_
  refine TQ.retE (res1 rfl rfl) (⟨by rw [low5 n hn, low5s n hn]; rfl, rfl⟩) ?_
  exact ett

/-! ### what it computes -/
def word (bs : List UInt8) (k : Nat) : UInt32 :=
  shl32 (bs.getD (4 * k) 0).toUInt32 24 ||| shl32 (bs.getD (4 * k + 1) 0).toUInt32 16 ||| shl32 (bs.getD (4 * k + 2) 0).toUInt32 8 ||| (bs.getD (4 * k + 3) 0).toUInt32
def fill1 (bs : List UInt8) : Nat → List UInt32
  | 0 => List.replicate 80 0
  | k + 1 => (fill1 bs k).set k (word bs k)
def fill2 (bs : List UInt8) : Nat → List UInt32
  | 0 => fill1 bs 16
  | j + 1 => (fill2 bs j).set (j + 16) (rotl ((fill2 bs j).getD (j + 16 - 3) 0 ^^^ (fill2 bs j).getD (j + 16 - 8) 0 ^^^ (fill2 bs j).getD (j + 16 - 14) 0 ^^^ (fill2 bs j).getD (j + 16 - 16) 0) 1)
theorem fill1_len (bs : List UInt8) : ∀ k, (fill1 bs k).length = 80
  | 0 => by simp [fill1]
  | k + 1 => by simp [fill1, fill1_len bs k]
theorem fill2_len (bs : List UInt8) : ∀ k, (fill2 bs k).length = 80
  | 0 => by simp [fill2, fill1_len]
  | k + 1 => by simp [fill2, fill2_len bs k]
def ff (q : Nat) (b c d : UInt32) : UInt32 := if q = 0 then d ^^^ (b &&& (c ^^^ d)) else if q = 1 then b ^^^ c ^^^ d else if q = 2 then (b &&& c) ||| (d &&& (b ||| c)) else b ^^^ c ^^^ d
def kk (q : Nat) : UInt32 := if q = 0 then 1518500249 else if q = 1 then 1859775393 else if q = 2 then 2400959708 else 3395469782
structure S5 where
  a : UInt32
  b : UInt32
  c : UInt32
  d : UInt32
  e : UInt32
def step (t : Nat) (x : UInt32) (s : S5) : S5 := ⟨rotl s.a 5 + ff (t / 20) s.b s.c s.d + s.e + kk (t / 20) + x, s.a, rotl s.b 30, s.c, s.d⟩
def rounds (ws : List UInt32) (s : S5) : Nat → S5
  | 0 => s
  | k + 1 => step k (ws.getD k 0) (rounds ws s k)
def adds (hs rs : List UInt32) : Nat → List UInt32
  | 0 => hs
  | k + 1 => (adds hs rs k).set k ((adds hs rs k).getD k 0 + rs.getD k 0)
theorem adds_len (hs rs : List UInt32) : ∀ k, (adds hs rs k).length = hs.length
  | 0 => rfl
  | k + 1 => by simp [adds, adds_len hs rs k]
def S5.list (s : S5) : List UInt32 := [s.a, s.b, s.c, s.d, s.e]
def s5 (hs : List UInt32) : S5 := ⟨hs.getD 0 0, hs.getD 1 0, hs.getD 2 0, hs.getD 3 0, hs.getD 4 0⟩
def block (hs : List UInt32) (bs : List UInt8) : List UInt32 := adds hs (rounds (fill2 bs 64) (s5 hs) 80).list 5
theorem ff_0 {q : Nat} {b c d : UInt32} (h : q = 0) : ff q b c d = d ^^^ (b &&& (c ^^^ d)) := by subst h; rfl
theorem ff_1 {q : Nat} {b c d : UInt32} (h : q = 1) : ff q b c d = b ^^^ c ^^^ d := by subst h; rfl
theorem ff_2 {q : Nat} {b c d : UInt32} (h : q = 2) : ff q b c d = (b &&& c) ||| (d &&& (b ||| c)) := by subst h; rfl
theorem ff_3 {q : Nat} {b c d : UInt32} (h : ¬ q = 0) (h1 : ¬ q = 1) (h2 : ¬ q = 2) : ff q b c d = b ^^^ c ^^^ d := by simp [ff, h, h1, h2]
theorem kk_0 {q : Nat} (h : q = 0) : kk q = 1518500249 := by subst h; rfl
theorem kk_1 {q : Nat} (h : q = 1) : kk q = 1859775393 := by subst h; rfl
theorem kk_2 {q : Nat} (h : q = 2) : kk q = 2400959708 := by subst h; rfl
theorem kk_3 {q : Nat} (h : ¬ q = 0) (h1 : ¬ q = 1) (h2 : ¬ q = 2) : kk q = 3395469782 := by simp [kk, h, h1, h2]

set_option maxHeartbeats 4000000 in
theorem block_fn (hb T n cap : Nat) (p : Addr) (hs : List UInt32) (bs : List UInt8) (A : SA) (hA : Reads A 1 (.slice (some p) n cap) n (bs.map v8)) (h5 : hs.length = 5) (hn : 64 ≤ n) (hl : bs.length = n) (L : List SA) :
    Fn Try.prog 57 [pt hb 0, .slice (some p) n cap] (SA.blk hb (hs.map v32).toArray T :: A :: L) (fun v L' => v = .tuple #[] ∧ L' = SA.blk hb ((block hs bs).map v32).toArray T :: A :: L) := by
  refine Fn.of (N := 178) Try.func57 rfl rfl ?_
  intro Xh
  refine TC.seq ?_
  refine TC.region ?_
  refine TL.eff rfl rfl rfl (X.alloc rfl zc111) ?_
  rintro _ _ ⟨b4, rfl, rfl⟩
  refine TL.nil ?_
  refine TQ.next ?_
  refine TC.seq ?_
  refine TC.seq ?_
  refine TC.region ?_
  refine TL.val rfl rfl rfl (Y.move rfl rfl) ?_
  refine TL.nil ?_
  refine TQ.next ?_
  refine TC.block ?_
  refine TC.loopF (ι := Nat) [] (fun k => k ≤ 16) (fun k => [(18, some (vN k))]) (fun k => [SA.blk b4 ((fill1 bs k).map v32).toArray 111]) (fun k => 16 - k) (0) (by omega) ⟨rfl, trivial⟩ (Pulls.cons pul Pulls.nil) ?_
  rintro k hk F' L' rfl hL'
  simp only [List.cons_append, List.nil_append] at hL'
  subst hL'
  have hw := fill1_len bs k
  refine TC.seq ?_
  refine TC.region ?_
  refine TL.val rfl rfl rfl (Y.bin rfl rfl rfl (br_ltN (n := 16))) ?_
  refine TL.nil ?_
  refine TQ.next ?_
  refine TC.seq ?_
  refine TC.cond rfl (fun c0 => ?_) (fun c0 => ?_)
  · try simp only [decide_eq_true_eq, decide_eq_false_iff_not, Bool.not_eq_true', Bool.not_eq_false', Bool.and_eq_true, Bool.or_eq_true, Nat.not_lt, Nat.not_le, beq_iff_eq, bne_iff_ne] at c0
    refine TC.skip ?_
    refine TQ.next ?_
    refine TC.seq ?_
    refine TC.block ?_
    refine TC.seq ?_
    refine TC.region ?_
    refine TL.val rfl rfl rfl (Y.move rfl rfl) ?_
    refine TL.val rfl rfl rfl (Y.assign rfl rfl) ?_
    refine TL.nil ?_
    refine TQ.next ?_
    refine TC.draws 35 _ (by kernel_rfl) (by kernel_rfl) (fun _ h => h) ?_
    refine TA.take 0 rfl rfl rfl rfl (by kernel_rfl) (by kernel_rfl) (by kernel_rfl) rfl (by kernel_rfl) (by kernel_rfl) (fun _ _ _ h => h) (Y.move rfl rfl) ?_
    refine TA.take 1 rfl rfl rfl rfl (by kernel_rfl) (by kernel_rfl) (by kernel_rfl) rfl (by kernel_rfl) (by kernel_rfl) (fun _ _ _ h => h) (Y.move rfl rfl) ?_
    refine TA.take 2 rfl rfl rfl rfl (by kernel_rfl) (by kernel_rfl) (by kernel_rfl) rfl (by kernel_rfl) (by kernel_rfl) (fun _ _ _ h => h) (Y.move rfl rfl) ?_
    refine TA.take 3 rfl rfl rfl rfl (by kernel_rfl) (by kernel_rfl) (by kernel_rfl) rfl (by kernel_rfl) (by kernel_rfl) (fun _ _ _ h => h) (Y.bin rfl rfl rfl (br_mulN (m := 4) (by omega))) ?_
    refine TA.take 4 rfl rfl rfl rfl (by kernel_rfl) (by kernel_rfl) (by kernel_rfl) rfl (by kernel_rfl) (by kernel_rfl) (fun _ _ _ h => h) (by first | exact Y.indexSlB rfl sl23 rfl rfl (by omega) nqq | exact Y.indexSl rfl sl23 rfl rfl (by omega) nqq) ?_
    refine TA.take 5 rfl rfl rfl rfl (by kernel_rfl) (by kernel_rfl) (by kernel_rfl) rfl (by kernel_rfl) (by kernel_rfl) (fun _ _ _ h => h) (Y.load rfl sc5 rfl ceo8) ?_
    refine TA.take 6 rfl rfl rfl rfl (by kernel_rfl) (by kernel_rfl) (by kernel_rfl) rfl (by kernel_rfl) (by kernel_rfl) (fun _ _ _ h => h) (Y.conv rfl Try.underlying5 Try.underlying22 rfl (cv_8_32)) ?_
    refine TA.take 7 rfl rfl rfl rfl (by kernel_rfl) (by kernel_rfl) (by kernel_rfl) rfl (by kernel_rfl) (by kernel_rfl) (fun _ _ _ h => h) (Y.bin rfl rfl rfl (br_shl32 (n := 24))) ?_
    refine TA.take 8 rfl rfl rfl rfl (by kernel_rfl) (by kernel_rfl) (by kernel_rfl) rfl (by kernel_rfl) (by kernel_rfl) (fun _ _ _ h => h) (Y.move rfl rfl) ?_
    refine TA.take 9 rfl rfl rfl rfl (by kernel_rfl) (by kernel_rfl) (by kernel_rfl) rfl (by kernel_rfl) (by kernel_rfl) (fun _ _ _ h => h) (Y.move rfl rfl) ?_
    refine TA.take 10 rfl rfl rfl rfl (by kernel_rfl) (by kernel_rfl) (by kernel_rfl) rfl (by kernel_rfl) (by kernel_rfl) (fun _ _ _ h => h) (Y.bin rfl rfl rfl (br_mulN (m := 4) (by omega))) ?_
    refine TA.take 11 rfl rfl rfl rfl (by kernel_rfl) (by kernel_rfl) (by kernel_rfl) rfl (by kernel_rfl) (by kernel_rfl) (fun _ _ _ h => h) (Y.bin rfl rfl rfl (br_addN (n := 1) (by omega))) ?_
    refine TA.take 12 rfl rfl rfl rfl (by kernel_rfl) (by kernel_rfl) (by kernel_rfl) rfl (by kernel_rfl) (by kernel_rfl) (fun _ _ _ h => h) (by first | exact Y.indexSlB rfl sl23 rfl rfl (by omega) nqq | exact Y.indexSl rfl sl23 rfl rfl (by omega) nqq) ?_
    refine TA.take 13 rfl rfl rfl rfl (by kernel_rfl) (by kernel_rfl) (by kernel_rfl) rfl (by kernel_rfl) (by kernel_rfl) (fun _ _ _ h => h) (Y.load rfl sc5 rfl ceo8) ?_
    refine TA.take 14 rfl rfl rfl rfl (by kernel_rfl) (by kernel_rfl) (by kernel_rfl) rfl (by kernel_rfl) (by kernel_rfl) (fun _ _ _ h => h) (Y.conv rfl Try.underlying5 Try.underlying22 rfl (cv_8_32)) ?_
    refine TA.take 15 rfl rfl rfl rfl (by kernel_rfl) (by kernel_rfl) (by kernel_rfl) rfl (by kernel_rfl) (by kernel_rfl) (fun _ _ _ h => h) (Y.bin rfl rfl rfl (br_shl32 (n := 16))) ?_
    refine TA.take 16 rfl rfl rfl rfl (by kernel_rfl) (by kernel_rfl) (by kernel_rfl) rfl (by kernel_rfl) (by kernel_rfl) (fun _ _ _ h => h) (Y.bin rfl rfl rfl (br_or32)) ?_
    refine TA.take 17 rfl rfl rfl rfl (by kernel_rfl) (by kernel_rfl) (by kernel_rfl) rfl (by kernel_rfl) (by kernel_rfl) (fun _ _ _ h => h) (Y.move rfl rfl) ?_
    refine TA.take 18 rfl rfl rfl rfl (by kernel_rfl) (by kernel_rfl) (by kernel_rfl) rfl (by kernel_rfl) (by kernel_rfl) (fun _ _ _ h => h) (Y.move rfl rfl) ?_
    refine TA.take 19 rfl rfl rfl rfl (by kernel_rfl) (by kernel_rfl) (by kernel_rfl) rfl (by kernel_rfl) (by kernel_rfl) (fun _ _ _ h => h) (Y.bin rfl rfl rfl (br_mulN (m := 4) (by omega))) ?_
    refine TA.take 20 rfl rfl rfl rfl (by kernel_rfl) (by kernel_rfl) (by kernel_rfl) rfl (by kernel_rfl) (by kernel_rfl) (fun _ _ _ h => h) (Y.bin rfl rfl rfl (br_addN (n := 2) (by omega))) ?_
    refine TA.take 21 rfl rfl rfl rfl (by kernel_rfl) (by kernel_rfl) (by kernel_rfl) rfl (by kernel_rfl) (by kernel_rfl) (fun _ _ _ h => h) (by first | exact Y.indexSlB rfl sl23 rfl rfl (by omega) nqq | exact Y.indexSl rfl sl23 rfl rfl (by omega) nqq) ?_
    refine TA.take 22 rfl rfl rfl rfl (by kernel_rfl) (by kernel_rfl) (by kernel_rfl) rfl (by kernel_rfl) (by kernel_rfl) (fun _ _ _ h => h) (Y.load rfl sc5 rfl ceo8) ?_
    refine TA.take 23 rfl rfl rfl rfl (by kernel_rfl) (by kernel_rfl) (by kernel_rfl) rfl (by kernel_rfl) (by kernel_rfl) (fun _ _ _ h => h) (Y.conv rfl Try.underlying5 Try.underlying22 rfl (cv_8_32)) ?_
    refine TA.take 24 rfl rfl rfl rfl (by kernel_rfl) (by kernel_rfl) (by kernel_rfl) rfl (by kernel_rfl) (by kernel_rfl) (fun _ _ _ h => h) (Y.bin rfl rfl rfl (br_shl32 (n := 8))) ?_
    refine TA.take 25 rfl rfl rfl rfl (by kernel_rfl) (by kernel_rfl) (by kernel_rfl) rfl (by kernel_rfl) (by kernel_rfl) (fun _ _ _ h => h) (Y.bin rfl rfl rfl (br_or32)) ?_
    refine TA.take 26 rfl rfl rfl rfl (by kernel_rfl) (by kernel_rfl) (by kernel_rfl) rfl (by kernel_rfl) (by kernel_rfl) (fun _ _ _ h => h) (Y.move rfl rfl) ?_
    refine TA.take 27 rfl rfl rfl rfl (by kernel_rfl) (by kernel_rfl) (by kernel_rfl) rfl (by kernel_rfl) (by kernel_rfl) (fun _ _ _ h => h) (Y.move rfl rfl) ?_
    refine TA.take 28 rfl rfl rfl rfl (by kernel_rfl) (by kernel_rfl) (by kernel_rfl) rfl (by kernel_rfl) (by kernel_rfl) (fun _ _ _ h => h) (Y.bin rfl rfl rfl (br_mulN (m := 4) (by omega))) ?_
    refine TA.take 29 rfl rfl rfl rfl (by kernel_rfl) (by kernel_rfl) (by kernel_rfl) rfl (by kernel_rfl) (by kernel_rfl) (fun _ _ _ h => h) (Y.bin rfl rfl rfl (br_addN (n := 3) (by omega))) ?_
    refine TA.take 30 rfl rfl rfl rfl (by kernel_rfl) (by kernel_rfl) (by kernel_rfl) rfl (by kernel_rfl) (by kernel_rfl) (fun _ _ _ h => h) (by first | exact Y.indexSlB rfl sl23 rfl rfl (by omega) nqq | exact Y.indexSl rfl sl23 rfl rfl (by omega) nqq) ?_
    refine TA.take 31 rfl rfl rfl rfl (by kernel_rfl) (by kernel_rfl) (by kernel_rfl) rfl (by kernel_rfl) (by kernel_rfl) (fun _ _ _ h => h) (Y.load rfl sc5 rfl ceo8) ?_
    refine TA.take 32 rfl rfl rfl rfl (by kernel_rfl) (by kernel_rfl) (by kernel_rfl) rfl (by kernel_rfl) (by kernel_rfl) (fun _ _ _ h => h) (Y.conv rfl Try.underlying5 Try.underlying22 rfl (cv_8_32)) ?_
    refine TA.take 33 rfl rfl rfl rfl (by kernel_rfl) (by kernel_rfl) (by kernel_rfl) rfl (by kernel_rfl) (by kernel_rfl) (fun _ _ _ h => h) (Y.bin rfl rfl rfl (br_or32)) ?_
    refine TA.take 34 rfl rfl rfl rfl (by kernel_rfl) (by kernel_rfl) (by kernel_rfl) rfl (by kernel_rfl) (by kernel_rfl) (fun _ _ _ h => h) (Y.indexArr rfl ar111 rfl rfl (by omega) nqq) ?_
    refine TA.one0 35 (by kernel_rfl) rfl rfl rfl (by first | exact X.store rfl sz22 rfl rfl rfl pul lnn (by first | exact setM | rfl) | exact X.storeOwn rfl sz22 rfl (Nat.zero_add _).symm rfl rfl pul lnn (by first | exact setML | rfl) | exact X.storeOwn rfl sz22 rfl rfl rfl rfl pul lnn (by first | exact setML | rfl)) ?_
    rintro _ _ rfl
    refine ⟨(Or.inl (by kernel_rfl)), ?_⟩
    refine TA.done (by kernel_rfl) ?_
    refine TQ.block_normal ?_
    refine TQ.next ?_
    refine TC.region ?_
    refine TL.val rfl rfl rfl (Y.bin rfl rfl rfl (br_addN (n := 1) (by omega))) ?_
    refine TL.val rfl rfl rfl (Y.move rfl rfl) ?_
    refine TL.nil ?_
    refine TQ.loopF (k + 1) (by omega) (by omega) ⟨rfl, trivial⟩ (by (repeat first | apply Grow.refl | apply Grow.step | apply Grow.app)) ?_ ?_ ?_
    · kernel_rfl
    · rfl
    · simp only [List.cons_append, List.nil_append]
      exact ett
  · try simp only [decide_eq_true_eq, decide_eq_false_iff_not, Bool.not_eq_true', Bool.not_eq_false', Bool.and_eq_true, Bool.or_eq_true, Nat.not_lt, Nat.not_le, beq_iff_eq, bne_iff_ne] at c0
    refine TC.exit ?_
    refine TQ.then_exit ?_
    refine TQ.then_exit ?_
    refine TQ.block_exit ?_
    refine TQ.next ?_
    refine TC.seq ?_
    refine TC.seq ?_
    refine TC.region ?_
    refine TL.val rfl rfl rfl (Y.assign rfl rfl) ?_
    refine TL.nil ?_
    refine TQ.next ?_
    refine TC.block ?_
    obtain rfl : k = 16 := by omega
    refine TC.loopF (ι := Nat) [] (fun k => k ≤ 64) (fun k => [(6, some (vN (k + 16)))]) (fun k => [SA.blk b4 ((fill2 bs k).map v32).toArray 111]) (fun k => 64 - k) (0) (by omega) ⟨rfl, trivial⟩ (Pulls.cons pul Pulls.nil) ?_
    rintro k hk F' L' rfl hL'
    simp only [List.cons_append, List.nil_append] at hL'
    subst hL'
    have hw2 := fill2_len bs k
    refine TC.seq ?_
    refine TC.seq ?_
    refine TC.region ?_
    refine TL.val rfl rfl rfl (Y.move rfl rfl) ?_
    refine TL.val rfl rfl rfl (Y.bin rfl rfl rfl (br_ltN (n := 80))) ?_
    refine TL.nil ?_
    refine TQ.next ?_
    refine TC.cond rfl (fun c1 => ?_) (fun c1 => ?_)
    · try simp only [decide_eq_true_eq, decide_eq_false_iff_not, Bool.not_eq_true', Bool.not_eq_false', Bool.and_eq_true, Bool.or_eq_true, Nat.not_lt, Nat.not_le, beq_iff_eq, bne_iff_ne] at c1
      refine TC.skip ?_
      refine TQ.next ?_
      refine TC.seq ?_
      refine TC.block ?_
      refine TC.draws 22 _ (by kernel_rfl) (by kernel_rfl) (fun _ h => h) ?_
      refine TA.take 0 rfl rfl rfl rfl (by kernel_rfl) (by kernel_rfl) (by kernel_rfl) rfl (by kernel_rfl) (by kernel_rfl) (fun _ _ _ h => h) (Y.move rfl rfl) ?_
      refine TA.take 1 rfl rfl rfl rfl (by kernel_rfl) (by kernel_rfl) (by kernel_rfl) rfl (by kernel_rfl) (by kernel_rfl) (fun _ _ _ h => h) (Y.move rfl rfl) ?_
      refine TA.take 2 rfl rfl rfl rfl (by kernel_rfl) (by kernel_rfl) (by kernel_rfl) rfl (by kernel_rfl) (by kernel_rfl) (fun _ _ _ h => h) (Y.bin rfl rfl rfl (br_subN (n := 3) (by omega) (by omega))) ?_
      refine TA.take 3 rfl rfl rfl rfl (by kernel_rfl) (by kernel_rfl) (by kernel_rfl) rfl (by kernel_rfl) (by kernel_rfl) (fun _ _ _ h => h) (Y.indexArr rfl ar111 rfl rfl (by omega) nqq) ?_
      refine TA.take 4 rfl rfl rfl rfl (by kernel_rfl) (by kernel_rfl) (by kernel_rfl) rfl (by kernel_rfl) (by kernel_rfl) (fun _ _ _ h => h) (Y.load rfl sc22 rfl ceo32) ?_
      refine TA.take 5 rfl rfl rfl rfl (by kernel_rfl) (by kernel_rfl) (by kernel_rfl) rfl (by kernel_rfl) (by kernel_rfl) (fun _ _ _ h => h) (Y.move rfl rfl) ?_
      refine TA.take 6 rfl rfl rfl rfl (by kernel_rfl) (by kernel_rfl) (by kernel_rfl) rfl (by kernel_rfl) (by kernel_rfl) (fun _ _ _ h => h) (Y.bin rfl rfl rfl (br_subN (n := 8) (by omega) (by omega))) ?_
      refine TA.take 7 rfl rfl rfl rfl (by kernel_rfl) (by kernel_rfl) (by kernel_rfl) rfl (by kernel_rfl) (by kernel_rfl) (fun _ _ _ h => h) (Y.indexArr rfl ar111 rfl rfl (by omega) nqq) ?_
      refine TA.take 8 rfl rfl rfl rfl (by kernel_rfl) (by kernel_rfl) (by kernel_rfl) rfl (by kernel_rfl) (by kernel_rfl) (fun _ _ _ h => h) (Y.load rfl sc22 rfl ceo32) ?_
      refine TA.take 9 rfl rfl rfl rfl (by kernel_rfl) (by kernel_rfl) (by kernel_rfl) rfl (by kernel_rfl) (by kernel_rfl) (fun _ _ _ h => h) (Y.bin rfl rfl rfl (br_xor32)) ?_
      refine TA.take 10 rfl rfl rfl rfl (by kernel_rfl) (by kernel_rfl) (by kernel_rfl) rfl (by kernel_rfl) (by kernel_rfl) (fun _ _ _ h => h) (Y.move rfl rfl) ?_
      refine TA.take 11 rfl rfl rfl rfl (by kernel_rfl) (by kernel_rfl) (by kernel_rfl) rfl (by kernel_rfl) (by kernel_rfl) (fun _ _ _ h => h) (Y.bin rfl rfl rfl (br_subN (n := 14) (by omega) (by omega))) ?_
      refine TA.take 12 rfl rfl rfl rfl (by kernel_rfl) (by kernel_rfl) (by kernel_rfl) rfl (by kernel_rfl) (by kernel_rfl) (fun _ _ _ h => h) (Y.indexArr rfl ar111 rfl rfl (by omega) nqq) ?_
      refine TA.take 13 rfl rfl rfl rfl (by kernel_rfl) (by kernel_rfl) (by kernel_rfl) rfl (by kernel_rfl) (by kernel_rfl) (fun _ _ _ h => h) (Y.load rfl sc22 rfl ceo32) ?_
      refine TA.take 14 rfl rfl rfl rfl (by kernel_rfl) (by kernel_rfl) (by kernel_rfl) rfl (by kernel_rfl) (by kernel_rfl) (fun _ _ _ h => h) (Y.bin rfl rfl rfl (br_xor32)) ?_
      refine TA.take 15 rfl rfl rfl rfl (by kernel_rfl) (by kernel_rfl) (by kernel_rfl) rfl (by kernel_rfl) (by kernel_rfl) (fun _ _ _ h => h) (Y.move rfl rfl) ?_
      refine TA.take 16 rfl rfl rfl rfl (by kernel_rfl) (by kernel_rfl) (by kernel_rfl) rfl (by kernel_rfl) (by kernel_rfl) (fun _ _ _ h => h) (Y.bin rfl rfl rfl (br_subN (n := 16) (by omega) (by omega))) ?_
      refine TA.take 17 rfl rfl rfl rfl (by kernel_rfl) (by kernel_rfl) (by kernel_rfl) rfl (by kernel_rfl) (by kernel_rfl) (fun _ _ _ h => h) (Y.indexArr rfl ar111 rfl rfl (by omega) nqq) ?_
      refine TA.take 18 rfl rfl rfl rfl (by kernel_rfl) (by kernel_rfl) (by kernel_rfl) rfl (by kernel_rfl) (by kernel_rfl) (fun _ _ _ h => h) (Y.load rfl sc22 rfl ceo32) ?_
      refine TA.take 19 rfl rfl rfl rfl (by kernel_rfl) (by kernel_rfl) (by kernel_rfl) rfl (by kernel_rfl) (by kernel_rfl) (fun _ _ _ h => h) (Y.bin rfl rfl rfl (br_xor32)) ?_
      refine TA.one 20 (by kernel_rfl) rfl rfl rfl rfl (X.call rfl Try.func58 (by kernel_rfl) rfl rfl (bits_fn _ 1 (by decide) _)) ?_
      rintro _ _ ⟨rfl, rfl⟩
      refine ⟨(Or.inr (fun w h A hA => h A (by with_reducible (first | assumption | (repeat first | exact In.there hA | apply In.there))))), ?_⟩
      refine TA.take 21 rfl rfl rfl rfl (by kernel_rfl) (by kernel_rfl) (by kernel_rfl) rfl (by kernel_rfl) (by kernel_rfl) (fun _ _ _ h => h) (Y.indexArr rfl ar111 rfl rfl (by omega) nqq) ?_
      refine TA.one0 22 (by kernel_rfl) rfl rfl rfl (by first | exact X.store rfl sz22 rfl rfl rfl pul lnn (by first | exact setM | rfl) | exact X.storeOwn rfl sz22 rfl (Nat.zero_add _).symm rfl rfl pul lnn (by first | exact setML | rfl) | exact X.storeOwn rfl sz22 rfl rfl rfl rfl pul lnn (by first | exact setML | rfl)) ?_
      rintro _ _ rfl
      refine ⟨(Or.inl (by kernel_rfl)), ?_⟩
      refine TA.done (by kernel_rfl) ?_
      refine TQ.block_normal ?_
      refine TQ.next ?_
      refine TC.region ?_
      refine TL.val rfl rfl rfl (Y.move rfl rfl) ?_
      refine TL.val rfl rfl rfl (Y.bin rfl rfl rfl (br_addN (n := 1) (by omega))) ?_
      refine TL.val rfl rfl rfl (Y.assign rfl rfl) ?_
      refine TL.nil ?_
      refine TQ.loopF (k + 1) (by omega) (by omega) ⟨rfl, trivial⟩ (by (repeat first | apply Grow.refl | apply Grow.step | apply Grow.app)) ?_ ?_ ?_
      · kernel_rfl
      · rfl
      · simp only [List.cons_append, List.nil_append]
        exact ett
    · try simp only [decide_eq_true_eq, decide_eq_false_iff_not, Bool.not_eq_true', Bool.not_eq_false', Bool.and_eq_true, Bool.or_eq_true, Nat.not_lt, Nat.not_le, beq_iff_eq, bne_iff_ne] at c1
      refine TC.exit ?_
      refine TQ.then_exit ?_
      refine TQ.then_exit ?_
      refine TQ.block_exit ?_
      refine TQ.next ?_
      refine TC.seq ?_
      refine TC.draws 25 _ (by kernel_rfl) (by kernel_rfl) (fun _ h => h) ?_
      refine TA.take 0 rfl rfl rfl rfl (by kernel_rfl) (by kernel_rfl) (by kernel_rfl) rfl (by kernel_rfl) (by kernel_rfl) (fun _ _ _ h => h) (Y.move rfl rfl) ?_
      refine TA.take 1 rfl rfl rfl rfl (by kernel_rfl) (by kernel_rfl) (by kernel_rfl) rfl (by kernel_rfl) (by kernel_rfl) (fun _ _ _ h => h) (Y.nilCheck rfl rfl) ?_
      refine TA.take 2 rfl rfl rfl rfl (by kernel_rfl) (by kernel_rfl) (by kernel_rfl) rfl (by kernel_rfl) (by kernel_rfl) (fun _ _ _ h => h) (Y.indexArr (j := 0) rfl ar109 rfl rfl (by omega) nqq) ?_
      refine TA.take 3 rfl rfl rfl rfl (by kernel_rfl) (by kernel_rfl) (by kernel_rfl) rfl (by kernel_rfl) (by kernel_rfl) (fun _ _ _ h => h) (Y.load rfl sc22 rfl ceo32) ?_
      refine TA.take 4 rfl rfl rfl rfl (by kernel_rfl) (by kernel_rfl) (by kernel_rfl) rfl (by kernel_rfl) (by kernel_rfl) (fun _ _ _ h => h) (Y.move rfl rfl) ?_
      refine TA.take 5 rfl rfl rfl rfl (by kernel_rfl) (by kernel_rfl) (by kernel_rfl) rfl (by kernel_rfl) (by kernel_rfl) (fun _ _ _ h => h) (Y.nilCheck rfl rfl) ?_
      refine TA.take 6 rfl rfl rfl rfl (by kernel_rfl) (by kernel_rfl) (by kernel_rfl) rfl (by kernel_rfl) (by kernel_rfl) (fun _ _ _ h => h) (Y.indexArr (j := 1) rfl ar109 rfl rfl (by omega) nqq) ?_
      refine TA.take 7 rfl rfl rfl rfl (by kernel_rfl) (by kernel_rfl) (by kernel_rfl) rfl (by kernel_rfl) (by kernel_rfl) (fun _ _ _ h => h) (Y.load rfl sc22 rfl ceo32) ?_
      refine TA.take 8 rfl rfl rfl rfl (by kernel_rfl) (by kernel_rfl) (by kernel_rfl) rfl (by kernel_rfl) (by kernel_rfl) (fun _ _ _ h => h) (Y.move rfl rfl) ?_
      refine TA.take 9 rfl rfl rfl rfl (by kernel_rfl) (by kernel_rfl) (by kernel_rfl) rfl (by kernel_rfl) (by kernel_rfl) (fun _ _ _ h => h) (Y.nilCheck rfl rfl) ?_
      refine TA.take 10 rfl rfl rfl rfl (by kernel_rfl) (by kernel_rfl) (by kernel_rfl) rfl (by kernel_rfl) (by kernel_rfl) (fun _ _ _ h => h) (Y.indexArr (j := 2) rfl ar109 rfl rfl (by omega) nqq) ?_
      refine TA.take 11 rfl rfl rfl rfl (by kernel_rfl) (by kernel_rfl) (by kernel_rfl) rfl (by kernel_rfl) (by kernel_rfl) (fun _ _ _ h => h) (Y.load rfl sc22 rfl ceo32) ?_
      refine TA.take 12 rfl rfl rfl rfl (by kernel_rfl) (by kernel_rfl) (by kernel_rfl) rfl (by kernel_rfl) (by kernel_rfl) (fun _ _ _ h => h) (Y.move rfl rfl) ?_
      refine TA.take 13 rfl rfl rfl rfl (by kernel_rfl) (by kernel_rfl) (by kernel_rfl) rfl (by kernel_rfl) (by kernel_rfl) (fun _ _ _ h => h) (Y.nilCheck rfl rfl) ?_
      refine TA.take 14 rfl rfl rfl rfl (by kernel_rfl) (by kernel_rfl) (by kernel_rfl) rfl (by kernel_rfl) (by kernel_rfl) (fun _ _ _ h => h) (Y.indexArr (j := 3) rfl ar109 rfl rfl (by omega) nqq) ?_
      refine TA.take 15 rfl rfl rfl rfl (by kernel_rfl) (by kernel_rfl) (by kernel_rfl) rfl (by kernel_rfl) (by kernel_rfl) (fun _ _ _ h => h) (Y.load rfl sc22 rfl ceo32) ?_
      refine TA.take 16 rfl rfl rfl rfl (by kernel_rfl) (by kernel_rfl) (by kernel_rfl) rfl (by kernel_rfl) (by kernel_rfl) (fun _ _ _ h => h) (Y.move rfl rfl) ?_
      refine TA.take 17 rfl rfl rfl rfl (by kernel_rfl) (by kernel_rfl) (by kernel_rfl) rfl (by kernel_rfl) (by kernel_rfl) (fun _ _ _ h => h) (Y.nilCheck rfl rfl) ?_
      refine TA.take 18 rfl rfl rfl rfl (by kernel_rfl) (by kernel_rfl) (by kernel_rfl) rfl (by kernel_rfl) (by kernel_rfl) (fun _ _ _ h => h) (Y.indexArr (j := 4) rfl ar109 rfl rfl (by omega) nqq) ?_
      refine TA.take 19 rfl rfl rfl rfl (by kernel_rfl) (by kernel_rfl) (by kernel_rfl) rfl (by kernel_rfl) (by kernel_rfl) (fun _ _ _ h => h) (Y.load rfl sc22 rfl ceo32) ?_
      refine TA.take 20 rfl rfl rfl rfl (by kernel_rfl) (by kernel_rfl) (by kernel_rfl) rfl (by kernel_rfl) (by kernel_rfl) (fun _ _ _ h => h) (Y.assign rfl rfl) ?_
      refine TA.take 21 rfl rfl rfl rfl (by kernel_rfl) (by kernel_rfl) (by kernel_rfl) rfl (by kernel_rfl) (by kernel_rfl) (fun _ _ _ h => h) (Y.assign rfl rfl) ?_
      refine TA.take 22 rfl rfl rfl rfl (by kernel_rfl) (by kernel_rfl) (by kernel_rfl) rfl (by kernel_rfl) (by kernel_rfl) (fun _ _ _ h => h) (Y.assign rfl rfl) ?_
      refine TA.take 23 rfl rfl rfl rfl (by kernel_rfl) (by kernel_rfl) (by kernel_rfl) rfl (by kernel_rfl) (by kernel_rfl) (fun _ _ _ h => h) (Y.assign rfl rfl) ?_
      refine TA.take 24 rfl rfl rfl rfl (by kernel_rfl) (by kernel_rfl) (by kernel_rfl) rfl (by kernel_rfl) (by kernel_rfl) (fun _ _ _ h => h) (Y.assign rfl rfl) ?_
      refine TA.done (by kernel_rfl) ?_
      refine TQ.next ?_
      refine TC.seq ?_
      refine TC.seq ?_
      refine TC.region ?_
      refine TL.val rfl rfl rfl (Y.loadAgg rfl ag111 rfl (Cels.full inn) (by ((try simp only [List.length_map, List.length_set, List.length_replicate]); omega))) ?_
      refine TL.val rfl rfl rfl (Y.move rfl rfl) ?_
      refine TL.nil ?_
      refine TQ.next ?_
      refine TC.block ?_
      obtain rfl : k = 64 := by omega
      refine TC.loopF (ι := Nat) [] (fun k => k ≤ 80) (fun k => [(104, some (vN k)), (7, some (v32 (rounds (fill2 bs 64) (s5 hs) k).a)), (8, some (v32 (rounds (fill2 bs 64) (s5 hs) k).b)), (9, some (v32 (rounds (fill2 bs 64) (s5 hs) k).c)), (10, some (v32 (rounds (fill2 bs 64) (s5 hs) k).d)), (11, some (v32 (rounds (fill2 bs 64) (s5 hs) k).e))]) (fun k => []) (fun k => 80 - k) (0) (by omega) ⟨rfl, rfl, rfl, rfl, rfl, rfl, trivial⟩ Pulls.nil ?_
      rintro k hk F' L' rfl hL'
      simp only [List.cons_append, List.nil_append] at hL'
      subst hL'
      refine TC.seq ?_
      refine TC.region ?_
      refine TL.val rfl rfl rfl (Y.bin rfl rfl rfl (br_ltN (n := 80))) ?_
      refine TL.nil ?_
      refine TQ.next ?_
      refine TC.seq ?_
      refine TC.cond rfl (fun c2 => ?_) (fun c2 => ?_)
      · try simp only [decide_eq_true_eq, decide_eq_false_iff_not, Bool.not_eq_true', Bool.not_eq_false', Bool.and_eq_true, Bool.or_eq_true, Nat.not_lt, Nat.not_le, beq_iff_eq, bne_iff_ne] at c2
        refine TC.skip ?_
        refine TQ.next ?_
        refine TC.seq ?_
        refine TC.block ?_
        refine TC.seq ?_
        refine TC.region ?_
        refine TL.val rfl rfl rfl (Y.move rfl rfl) ?_
        refine TL.val rfl rfl rfl (Y.indexAgg rfl Try.underlying111 sc22 sz22 rfl rfl (by omega) (by first | exact getM (d := (0 : UInt32)) lnn | rfl)) ?_
        refine TL.val rfl rfl rfl (Y.assign rfl rfl) ?_
        refine TL.val rfl rfl rfl (Y.assign rfl rfl) ?_
        refine TL.nil ?_
        refine TQ.next ?_
        refine TC.seq ?_
        refine TC.region ?_
        refine TL.val rfl rfl rfl (Y.assign rfl rfl) ?_
        refine TL.val rfl rfl rfl (Y.assign rfl rfl) ?_
        refine TL.nil ?_
        refine TQ.next ?_
        refine TC.cutF (ι := Unit) [] (fun _ => True) (fun _ => [(14, some (v32 (ff (k / 20) (rounds (fill2 bs 64) (s5 hs) k).b (rounds (fill2 bs 64) (s5 hs) k).c (rounds (fill2 bs 64) (s5 hs) k).d))), (15, some (v32 (kk (k / 20))))]) (fun _ => []) (Ao := []) Pulls.nil ?_ ?_
        · rintro L' hL'
          simp only [List.cons_append, List.nil_append] at hL'
          subst hL'
          refine TC.seq ?_
          refine TC.region ?_
          refine TL.val rfl rfl rfl (Y.move rfl rfl) ?_
          refine TL.val rfl rfl rfl (Y.bin rfl rfl rfl (br_quoN (n := 20) (by omega) (by omega))) ?_
          refine TL.nil ?_
          refine TQ.next ?_
          refine TC.block ?_
          refine TC.seq ?_
          refine TC.region ?_
          refine TL.val rfl rfl rfl (Y.bin rfl rfl rfl (br_eqN (n := 0))) ?_
          refine TL.val rfl rfl rfl (Y.assign rfl rfl) ?_
          refine TL.nil ?_
          refine TQ.next ?_
          refine TC.cond rfl (fun c3 => ?_) (fun c3 => ?_)
          · try simp only [decide_eq_true_eq, decide_eq_false_iff_not, Bool.not_eq_true', Bool.not_eq_false', Bool.and_eq_true, Bool.or_eq_true, Nat.not_lt, Nat.not_le, beq_iff_eq, bne_iff_ne] at c3
            refine TC.region ?_
            refine TL.val rfl rfl rfl (Y.move rfl rfl) ?_
            refine TL.val rfl rfl rfl (Y.move rfl rfl) ?_
            refine TL.val rfl rfl rfl (Y.move rfl rfl) ?_
            refine TL.val rfl rfl rfl (Y.move rfl rfl) ?_
            refine TL.val rfl rfl rfl (Y.bin rfl rfl rfl (br_xor32)) ?_
            refine TL.val rfl rfl rfl (Y.bin rfl rfl rfl (br_and32)) ?_
            refine TL.val rfl rfl rfl (Y.bin rfl rfl rfl (br_xor32)) ?_
            refine TL.val rfl rfl rfl (Y.assign rfl rfl) ?_
            refine TL.val rfl rfl rfl (Y.assign rfl rfl) ?_
            refine TL.nil ?_
            refine TQ.block_normal ?_
            refine TQ.meetF (()) (trivial) (by first | exact ⟨by rw [ff_0 c3]; rfl, by rw [kk_0 c3]; rfl, trivial⟩ | exact ⟨by rw [ff_1 c4]; rfl, by rw [kk_1 c4]; rfl, trivial⟩ | exact ⟨by rw [ff_2 c5]; rfl, by rw [kk_2 c5]; rfl, trivial⟩ | exact ⟨by rw [ff_3 c3 c4 c5]; rfl, by rw [kk_3 c3 c4 c5]; rfl, trivial⟩) (by (repeat first | apply Grow.refl | apply Grow.step | apply Grow.app)) ?_ ?_
            · kernel_rfl
            · simp only [List.cons_append, List.nil_append]
              exact ett
          · try simp only [decide_eq_true_eq, decide_eq_false_iff_not, Bool.not_eq_true', Bool.not_eq_false', Bool.and_eq_true, Bool.or_eq_true, Nat.not_lt, Nat.not_le, beq_iff_eq, bne_iff_ne] at c3
            refine TC.seq ?_
            refine TC.region ?_
            refine TL.val rfl rfl rfl (Y.bin rfl rfl rfl (br_eqN (n := 1))) ?_
            refine TL.val rfl rfl rfl (Y.assign rfl rfl) ?_
            refine TL.nil ?_
            refine TQ.next ?_
            refine TC.cond rfl (fun c4 => ?_) (fun c4 => ?_)
            · try simp only [decide_eq_true_eq, decide_eq_false_iff_not, Bool.not_eq_true', Bool.not_eq_false', Bool.and_eq_true, Bool.or_eq_true, Nat.not_lt, Nat.not_le, beq_iff_eq, bne_iff_ne] at c4
              refine TC.region ?_
              refine TL.val rfl rfl rfl (Y.move rfl rfl) ?_
              refine TL.val rfl rfl rfl (Y.move rfl rfl) ?_
              refine TL.val rfl rfl rfl (Y.bin rfl rfl rfl (br_xor32)) ?_
              refine TL.val rfl rfl rfl (Y.move rfl rfl) ?_
              refine TL.val rfl rfl rfl (Y.bin rfl rfl rfl (br_xor32)) ?_
              refine TL.val rfl rfl rfl (Y.assign rfl rfl) ?_
              refine TL.val rfl rfl rfl (Y.assign rfl rfl) ?_
              refine TL.nil ?_
              refine TQ.block_normal ?_
              refine TQ.meetF (()) (trivial) (by first | exact ⟨by rw [ff_0 c3]; rfl, by rw [kk_0 c3]; rfl, trivial⟩ | exact ⟨by rw [ff_1 c4]; rfl, by rw [kk_1 c4]; rfl, trivial⟩ | exact ⟨by rw [ff_2 c5]; rfl, by rw [kk_2 c5]; rfl, trivial⟩ | exact ⟨by rw [ff_3 c3 c4 c5]; rfl, by rw [kk_3 c3 c4 c5]; rfl, trivial⟩) (by (repeat first | apply Grow.refl | apply Grow.step | apply Grow.app)) ?_ ?_
              · kernel_rfl
              · simp only [List.cons_append, List.nil_append]
                exact ett
            · try simp only [decide_eq_true_eq, decide_eq_false_iff_not, Bool.not_eq_true', Bool.not_eq_false', Bool.and_eq_true, Bool.or_eq_true, Nat.not_lt, Nat.not_le, beq_iff_eq, bne_iff_ne] at c4
              refine TC.seq ?_
              refine TC.region ?_
              refine TL.val rfl rfl rfl (Y.bin rfl rfl rfl (br_eqN (n := 2))) ?_
              refine TL.val rfl rfl rfl (Y.assign rfl rfl) ?_
              refine TL.nil ?_
              refine TQ.next ?_
              refine TC.cond rfl (fun c5 => ?_) (fun c5 => ?_)
              · try simp only [decide_eq_true_eq, decide_eq_false_iff_not, Bool.not_eq_true', Bool.not_eq_false', Bool.and_eq_true, Bool.or_eq_true, Nat.not_lt, Nat.not_le, beq_iff_eq, bne_iff_ne] at c5
                refine TC.region ?_
                refine TL.val rfl rfl rfl (Y.move rfl rfl) ?_
                refine TL.val rfl rfl rfl (Y.move rfl rfl) ?_
                refine TL.val rfl rfl rfl (Y.bin rfl rfl rfl (br_and32)) ?_
                refine TL.val rfl rfl rfl (Y.move rfl rfl) ?_
                refine TL.val rfl rfl rfl (Y.move rfl rfl) ?_
                refine TL.val rfl rfl rfl (Y.move rfl rfl) ?_
                refine TL.val rfl rfl rfl (Y.bin rfl rfl rfl (br_or32)) ?_
                refine TL.val rfl rfl rfl (Y.bin rfl rfl rfl (br_and32)) ?_
                refine TL.val rfl rfl rfl (Y.bin rfl rfl rfl (br_or32)) ?_
                refine TL.val rfl rfl rfl (Y.assign rfl rfl) ?_
                refine TL.val rfl rfl rfl (Y.assign rfl rfl) ?_
                refine TL.nil ?_
                refine TQ.block_normal ?_
                refine TQ.meetF (()) (trivial) (by first | exact ⟨by rw [ff_0 c3]; rfl, by rw [kk_0 c3]; rfl, trivial⟩ | exact ⟨by rw [ff_1 c4]; rfl, by rw [kk_1 c4]; rfl, trivial⟩ | exact ⟨by rw [ff_2 c5]; rfl, by rw [kk_2 c5]; rfl, trivial⟩ | exact ⟨by rw [ff_3 c3 c4 c5]; rfl, by rw [kk_3 c3 c4 c5]; rfl, trivial⟩) (by (repeat first | apply Grow.refl | apply Grow.step | apply Grow.app)) ?_ ?_
                · kernel_rfl
                · simp only [List.cons_append, List.nil_append]
                  exact ett
              · try simp only [decide_eq_true_eq, decide_eq_false_iff_not, Bool.not_eq_true', Bool.not_eq_false', Bool.and_eq_true, Bool.or_eq_true, Nat.not_lt, Nat.not_le, beq_iff_eq, bne_iff_ne] at c5
                refine TC.region ?_
                refine TL.val rfl rfl rfl (Y.move rfl rfl) ?_
                refine TL.val rfl rfl rfl (Y.move rfl rfl) ?_
                refine TL.val rfl rfl rfl (Y.bin rfl rfl rfl (br_xor32)) ?_
                refine TL.val rfl rfl rfl (Y.move rfl rfl) ?_
                refine TL.val rfl rfl rfl (Y.bin rfl rfl rfl (br_xor32)) ?_
                refine TL.val rfl rfl rfl (Y.assign rfl rfl) ?_
                refine TL.val rfl rfl rfl (Y.assign rfl rfl) ?_
                refine TL.nil ?_
                refine TQ.block_normal ?_
                refine TQ.meetF (()) (trivial) (by first | exact ⟨by rw [ff_0 c3]; rfl, by rw [kk_0 c3]; rfl, trivial⟩ | exact ⟨by rw [ff_1 c4]; rfl, by rw [kk_1 c4]; rfl, trivial⟩ | exact ⟨by rw [ff_2 c5]; rfl, by rw [kk_2 c5]; rfl, trivial⟩ | exact ⟨by rw [ff_3 c3 c4 c5]; rfl, by rw [kk_3 c3 c4 c5]; rfl, trivial⟩) (by (repeat first | apply Grow.refl | apply Grow.step | apply Grow.app)) ?_ ?_
                · kernel_rfl
                · simp only [List.cons_append, List.nil_append]
                  exact ett
        · rintro ⟨⟩ - F' L' rfl hL'
          simp only [List.cons_append, List.nil_append] at hL'
          subst hL'
          refine TC.region ?_
          refine TL.val rfl rfl rfl (Y.move rfl rfl) ?_
          refine TL.eff rfl rfl rfl (X.call rfl Try.func58 (by kernel_rfl) rfl rfl (bits_fn _ 5 (by decide) _)) ?_
          rintro _ _ ⟨rfl, rfl⟩
          refine TL.val rfl rfl rfl (Y.move rfl rfl) ?_
          refine TL.val rfl rfl rfl (Y.bin rfl rfl rfl (br_add32)) ?_
          refine TL.val rfl rfl rfl (Y.move rfl rfl) ?_
          refine TL.val rfl rfl rfl (Y.bin rfl rfl rfl (br_add32)) ?_
          refine TL.val rfl rfl rfl (Y.move rfl rfl) ?_
          refine TL.val rfl rfl rfl (Y.bin rfl rfl rfl (br_add32)) ?_
          refine TL.val rfl rfl rfl (Y.move rfl rfl) ?_
          refine TL.val rfl rfl rfl (Y.bin rfl rfl rfl (br_add32)) ?_
          refine TL.val rfl rfl rfl (Y.move rfl rfl) ?_
          refine TL.val rfl rfl rfl (Y.move rfl rfl) ?_
          refine TL.eff rfl rfl rfl (X.call rfl Try.func58 (by kernel_rfl) rfl rfl (bits_fn _ 30 (by decide) _)) ?_
          rintro _ _ ⟨rfl, rfl⟩
          refine TL.val rfl rfl rfl (Y.move rfl rfl) ?_
          refine TL.val rfl rfl rfl (Y.move rfl rfl) ?_
          refine TL.val rfl rfl rfl (Y.assign rfl rfl) ?_
          refine TL.val rfl rfl rfl (Y.assign rfl rfl) ?_
          refine TL.val rfl rfl rfl (Y.assign rfl rfl) ?_
          refine TL.val rfl rfl rfl (Y.assign rfl rfl) ?_
          refine TL.val rfl rfl rfl (Y.assign rfl rfl) ?_
          refine TL.nil ?_
          refine TQ.block_normal ?_
          refine TQ.next ?_
          refine TC.region ?_
          refine TL.val rfl rfl rfl (Y.bin rfl rfl rfl (br_addN (n := 1) (by omega))) ?_
          refine TL.val rfl rfl rfl (Y.move rfl rfl) ?_
          refine TL.nil ?_
          refine TQ.loopF (k + 1) (by omega) (by omega) ⟨rfl, rfl, rfl, rfl, rfl, rfl, trivial⟩ (by (repeat first | apply Grow.refl | apply Grow.step | apply Grow.app)) ?_ ?_ ?_
          · kernel_rfl
          · rfl
          · simp only [List.cons_append, List.nil_append]
            exact ett
      · try simp only [decide_eq_true_eq, decide_eq_false_iff_not, Bool.not_eq_true', Bool.not_eq_false', Bool.and_eq_true, Bool.or_eq_true, Nat.not_lt, Nat.not_le, beq_iff_eq, bne_iff_ne] at c2
        refine TC.exit ?_
        refine TQ.then_exit ?_
        refine TQ.then_exit ?_
        refine TQ.block_exit ?_
        refine TQ.next ?_
        refine TC.seq ?_
        refine TC.region ?_
        refine TL.val rfl rfl rfl (Y.move rfl rfl) ?_
        refine TL.val rfl rfl rfl (Y.move rfl rfl) ?_
        refine TL.val rfl rfl rfl (Y.move rfl rfl) ?_
        refine TL.val rfl rfl rfl (Y.move rfl rfl) ?_
        refine TL.val rfl rfl rfl (Y.move rfl rfl) ?_
        refine TL.val rfl rfl rfl (Y.buildM rfl rfl Try.underlying108 sz22 zc108 rfl rfl rfl (by first | exact (by simp only [List.all_cons, List.all_nil, Value.oneCell', Bool.and_self]) | rfl)) ?_
        refine TL.val rfl rfl rfl (Y.move rfl rfl) ?_
        refine TL.nil ?_
        refine TQ.next ?_
        refine TC.block ?_
        obtain rfl : k = 80 := by omega
        refine TC.loopF (ι := Nat) [] (fun k => k ≤ 5) (fun k => [(164, some (vN k))]) (fun k => [SA.blk hb ((adds hs (rounds (fill2 bs 64) (s5 hs) 80).list k).map v32).toArray T]) (fun k => 5 - k) (0) (by omega) ⟨rfl, trivial⟩ (Pulls.cons pul Pulls.nil) ?_
        rintro k hk F' L' rfl hL'
        simp only [List.cons_append, List.nil_append] at hL'
        subst hL'
        have hw7 := adds_len hs (rounds (fill2 bs 64) (s5 hs) 80).list k
        refine TC.seq ?_
        refine TC.region ?_
        refine TL.val rfl rfl rfl (Y.bin rfl rfl rfl (br_ltN (n := 5))) ?_
        refine TL.nil ?_
        refine TQ.next ?_
        refine TC.seq ?_
        refine TC.cond rfl (fun c6 => ?_) (fun c6 => ?_)
        · try simp only [decide_eq_true_eq, decide_eq_false_iff_not, Bool.not_eq_true', Bool.not_eq_false', Bool.and_eq_true, Bool.or_eq_true, Nat.not_lt, Nat.not_le, beq_iff_eq, bne_iff_ne] at c6
          refine TC.skip ?_
          refine TQ.next ?_
          refine TC.seq ?_
          refine TC.block ?_
          refine TC.seq ?_
          refine TC.region ?_
          refine TL.val rfl rfl rfl (Y.move rfl rfl) ?_
          refine TL.val rfl rfl rfl (Y.indexAgg rfl Try.underlying108 sc22 sz22 rfl rfl (by omega) (getM (l := (rounds (fill2 bs 64) (s5 hs) 80).list) (d := 0) (by simp [S5.list]; omega))) ?_
          refine TL.val rfl rfl rfl (Y.assign rfl rfl) ?_
          refine TL.val rfl rfl rfl (Y.assign rfl rfl) ?_
          refine TL.nil ?_
          refine TQ.next ?_
          refine TC.draws 9 _ (by kernel_rfl) (by kernel_rfl) (fun _ h => h) ?_
          refine TA.take 0 rfl rfl rfl rfl (by kernel_rfl) (by kernel_rfl) (by kernel_rfl) rfl (by kernel_rfl) (by kernel_rfl) (fun _ _ _ h => h) (Y.move rfl rfl) ?_
          refine TA.take 1 rfl rfl rfl rfl (by kernel_rfl) (by kernel_rfl) (by kernel_rfl) rfl (by kernel_rfl) (by kernel_rfl) (fun _ _ _ h => h) (Y.move rfl rfl) ?_
          refine TA.take 2 rfl rfl rfl rfl (by kernel_rfl) (by kernel_rfl) (by kernel_rfl) rfl (by kernel_rfl) (by kernel_rfl) (fun _ _ _ h => h) (Y.nilCheck rfl rfl) ?_
          refine TA.take 3 rfl rfl rfl rfl (by kernel_rfl) (by kernel_rfl) (by kernel_rfl) rfl (by kernel_rfl) (by kernel_rfl) (fun _ _ _ h => h) (Y.indexArr rfl ar109 rfl rfl (by omega) nqq) ?_
          refine TA.take 4 rfl rfl rfl rfl (by kernel_rfl) (by kernel_rfl) (by kernel_rfl) rfl (by kernel_rfl) (by kernel_rfl) (fun _ _ _ h => h) (Y.load rfl sc22 rfl ceo32) ?_
          refine TA.take 5 rfl rfl rfl rfl (by kernel_rfl) (by kernel_rfl) (by kernel_rfl) rfl (by kernel_rfl) (by kernel_rfl) (fun _ _ _ h => h) (Y.move rfl rfl) ?_
          refine TA.take 6 rfl rfl rfl rfl (by kernel_rfl) (by kernel_rfl) (by kernel_rfl) rfl (by kernel_rfl) (by kernel_rfl) (fun _ _ _ h => h) (Y.bin rfl rfl rfl (br_add32)) ?_
          refine TA.takeP 7 rfl rfl rfl rfl (by kernel_rfl) (by kernel_rfl) (by kernel_rfl) rfl (fun _ _ _ h => h) (Y.nilCheck rfl rfl) ?_
          refine TA.take 8 rfl rfl rfl rfl (by kernel_rfl) (by kernel_rfl) (by kernel_rfl) rfl (by kernel_rfl) (by kernel_rfl) (fun _ _ _ h => h) (Y.indexArr rfl ar109 rfl rfl (by omega) nqq) ?_
          refine TA.one0 9 (by kernel_rfl) rfl rfl rfl (by first | exact X.store rfl sz22 rfl rfl rfl pul lnn (by first | exact setM | rfl) | exact X.storeOwn rfl sz22 rfl (Nat.zero_add _).symm rfl rfl pul lnn (by first | exact setML | rfl) | exact X.storeOwn rfl sz22 rfl rfl rfl rfl pul lnn (by first | exact setML | rfl)) ?_
          rintro _ _ rfl
          refine ⟨(Or.inl (by kernel_rfl)), ?_⟩
          refine TA.done (by kernel_rfl) ?_
          refine TQ.block_normal ?_
          refine TQ.next ?_
          refine TC.region ?_
          refine TL.val rfl rfl rfl (Y.bin rfl rfl rfl (br_addN (n := 1) (by omega))) ?_
          refine TL.val rfl rfl rfl (Y.move rfl rfl) ?_
          refine TL.nil ?_
          refine TQ.loopF (k + 1) (by omega) (by omega) ⟨rfl, trivial⟩ (by (repeat first | apply Grow.refl | apply Grow.step | apply Grow.app)) ?_ ?_ ?_
          · kernel_rfl
          · rfl
          · simp only [List.cons_append, List.nil_append]
            exact ett
        · try simp only [decide_eq_true_eq, decide_eq_false_iff_not, Bool.not_eq_true', Bool.not_eq_false', Bool.and_eq_true, Bool.or_eq_true, Nat.not_lt, Nat.not_le, beq_iff_eq, bne_iff_ne] at c6
          refine TC.exit ?_
          refine TQ.then_exit ?_
          refine TQ.then_exit ?_
          refine TQ.block_exit ?_
          obtain rfl : k = 5 := by omega
          refine TQ.endE (res0 rfl) (⟨rfl, rfl⟩) ?_
          exact ett
end sha
end Go.Proofs.Ytomplpdeeomehaa

/- SHA-1 as plain functions: blocks one by one, padding. -/
namespace Go.Proofs.Ytomplpdeeomehaa
set_option linter.unusedVariables false
set_option linter.unusedSimpArgs false
open Go.RowKit
namespace sha

theorem word_congr {x y : List UInt8} (h : ∀ i, i < 64 → x.getD i 0 = y.getD i 0) {k : Nat} (hk : k < 16) : word x k = word y k := by
  simp only [word]
  rw [h _ (by omega), h _ (by omega), h _ (by omega), h _ (by omega)]
theorem fill1_congr {x y : List UInt8} (h : ∀ i, i < 64 → x.getD i 0 = y.getD i 0) : ∀ k, k ≤ 16 → fill1 x k = fill1 y k
  | 0, _ => rfl
  | k + 1, hk => by rw [fill1, fill1, fill1_congr h k (by omega), word_congr h (by omega)]
theorem fill2_congr {x y : List UInt8} (h : ∀ i, i < 64 → x.getD i 0 = y.getD i 0) : ∀ k, fill2 x k = fill2 y k
  | 0 => fill1_congr h 16 (Nat.le_refl _)
  | k + 1 => by rw [fill2, fill2, fill2_congr h k]
theorem block_congr {hs : List UInt32} {x y : List UInt8} (h : ∀ i, i < 64 → x.getD i 0 = y.getD i 0) : block hs x = block hs y := by
  simp only [block, fill2_congr h]
theorem block_len (hs : List UInt32) (bs : List UInt8) : (block hs bs).length = hs.length := adds_len _ _ _
/-- q blocks, one behind the other -/
def runB (hs : List UInt32) (bs : List UInt8) : Nat → List UInt32
  | 0 => hs
  | q + 1 => block (runB hs bs q) (bs.drop (64 * q))
theorem runB_len (hs : List UInt32) (bs : List UInt8) : ∀ q, (runB hs bs q).length = hs.length
  | 0 => rfl
  | q + 1 => by rw [runB, block_len, runB_len hs bs q]
theorem getD_drop' {x : List UInt8} {a i : Nat} : (x.drop a).getD i 0 = x.getD (a + i) 0 := by simp [List.getD_eq_getElem?_getD]
theorem getD_app {x y : List UInt8} {i : Nat} (h : i < x.length) : (x ++ y).getD i 0 = x.getD i 0 := by
  simp [List.getD_eq_getElem?_getD, List.getElem?_append_left h]
theorem runB_append (hs : List UInt32) (x y : List UInt8) : ∀ q, 64 * q ≤ x.length → runB hs (x ++ y) q = runB hs x q
  | 0, _ => rfl
  | q + 1, hq => by
    rw [runB, runB, runB_append hs x y q (by omega)]
    refine block_congr fun i hi => ?_
    rw [getD_drop', getD_drop', getD_app (by omega)]
def H0 : List UInt32 := [1732584193, 4023233417, 2562383102, 271733878, 3285377520]
def zeros (n : Nat) : Nat := (119 - n % 64) % 64
def lenB (n : UInt64) (i : Nat) : List UInt8 := (List.range i).map fun i => (shr64 n (56 - 8 * i)).toUInt8
theorem lenB_succ (n : UInt64) (i : Nat) : lenB n (i + 1) = lenB n i ++ [(shr64 n (56 - 8 * i)).toUInt8] := by simp [lenB, List.range_succ]
theorem lenB_len (n : UInt64) (i : Nat) : (lenB n i).length = i := by simp [lenB]
def bitsN (t : List UInt8) : UInt64 := UInt64.ofNat t.length * 8
/-- padded -/
def padded (t : List UInt8) : List UInt8 := t ++ ([128] ++ (List.replicate (zeros t.length) 0 ++ lenB (bitsN t) 8))
theorem padded_len (t : List UInt8) : (padded t).length = t.length + 9 + zeros t.length := by simp [padded, lenB_len]; omega
theorem padded_mod (t : List UInt8) : (padded t).length % 64 = 0 := by rw [padded_len]; simp only [zeros]; omega
def outB (hs : List UInt32) (i : Nat) : UInt8 := (shr32 (hs.getD (i / 4) 0) (24 - 8 * (i % 4))).toUInt8
def outN (hs : List UInt32) : Nat → List UInt8
  | 0 => List.replicate 20 0
  | k + 1 => (outN hs k).set k (outB hs k)
theorem outN_len (hs : List UInt32) : ∀ k, (outN hs k).length = 20
  | 0 => by simp [outN]
  | k + 1 => by simp [outN, outN_len hs k]
def sha (t : List UInt8) : List UInt8 := outN (runB H0 (padded t) ((padded t).length / 64)) 20
theorem sha_len (t : List UInt8) : (sha t).length = 20 := outN_len _ _
end sha
end Go.Proofs.Ytomplpdeeomehaa

/- The program's SHA-1 of parts. -/
namespace Go.Proofs.Ytomplpdeeomehaa
set_option linter.unusedVariables false
set_option linter.unusedSimpArgs false
open Go.RowKit
namespace sha
namespace FxShaSum
set_option maxRecDepth 100000
theorem ag101 : Program.aggN Try.prog 101 = some 20 := by kernel_rfl
theorem ar101 : Program.arrI Try.prog 101 = some (20, 1) := by kernel_rfl
theorem ar109 : Program.arrI Try.prog 109 = some (5, 1) := by kernel_rfl
theorem el23 : Elt Try.prog 23 5 1 1 (.int .u8 0) := ⟨Try.underlying23, by kernel_rfl, rfl, by decide, by simp [Value.cells, Value.oneCell']⟩
theorem sc22 : Program.isSc Try.prog 22 = true := by kernel_rfl
theorem sc23 : Program.isSc Try.prog 23 = true := by kernel_rfl
theorem sl24 : Program.slI Try.prog 24 = some 1 := by kernel_rfl
theorem sz101 : (Try.prog.info? 101).map (·.size) = some 20 := by kernel_rfl
theorem sz109 : (Try.prog.info? 109).map (·.size) = some 5 := by kernel_rfl
theorem sz22 : (Try.prog.info? 22).map (·.size) = some 1 := by kernel_rfl
theorem sz5 : (Try.prog.info? 5).map (·.size) = some 1 := by kernel_rfl
theorem zc101 : Program.zeroC Try.prog 101 = some ((List.replicate 20 (0 : UInt8)).map v8).toArray := by kernel_rfl
theorem zc109 : Program.zeroC Try.prog 109 = some ((List.replicate 5 (0 : UInt32)).map v32).toArray := by kernel_rfl
end FxShaSum
open FxShaSum
theorem cat_take_succ {ps : List Pt} {k : Nat} {d : Pt} (h : k < ps.length) : cat (ps.take (k + 1)) = cat (ps.take k) ++ (ps.getD k d).2.2 := by
  rw [List.take_succ_eq_append_getElem h, cat, List.flatMap_append]
  simp [cat, List.getD_eq_getElem?_getD, h]
theorem cat_zero {ps : List Pt} : cat (ps.take 0) = [] := by simp [cat]
def rz (T : List UInt8) (j : Nat) : List UInt8 := T.drop (64 * (T.length / 64)) ++ ([128] ++ List.replicate j 0)
def rl (T : List UInt8) (i : Nat) : List UInt8 := T.drop (64 * (T.length / 64)) ++ ([128] ++ (List.replicate (zeros T.length) 0 ++ lenB (bitsN T) i))
theorem rz_0 (T : List UInt8) : List.map v8 (T.drop (64 * (T.length / 64))) ++ [Value.int .u8 128] = List.map v8 (rz T 0) := by simp [rz]
theorem rz_s (T : List UInt8) (j : Nat) : List.map v8 (rz T j) ++ [Value.int .u8 0] = List.map v8 (rz T (j + 1)) := by simp [rz, List.replicate_succ']
theorem rl_0 (T : List UInt8) : rz T (zeros T.length) = rl T 0 := by simp [rz, rl, lenB]
theorem rl_s (T : List UInt8) (j : Nat) : List.map v8 (rl T j) ++ [v8 (shr64 (UInt64.ofNat T.length * 8) (56 - 8 * j)).toUInt8] = List.map v8 (rl T (j + 1)) := by simp [rl, lenB_succ, bitsN]
theorem rl_8 (T : List UInt8) : rl T 8 = (padded T).drop (64 * (T.length / 64)) := by rw [rl, padded, List.drop_append_of_le_length (by omega)]
theorem cat_take_le (ps : List Pt) (k : Nat) : (cat (ps.take k)).length ≤ (cat ps).length := by
  conv => rhs; rw [← List.take_append_drop k ps]
  simp only [cat, List.flatMap_append, List.length_append]; omega
set_option maxHeartbeats 4000000 in
theorem sum_fn (B : SA) (pp : Addr) (m mc : Nat) (ps : List Pt) (vs : List Value) (hB0 : Reads B 1 (.slice (some pp) m mc) m vs) (hv : vs = ps.map pv) (hm : ps.length = m) (hlen : (cat ps).length ≤ 140737488354000) (L : List SA) :
    Fn Try.prog 56 [.slice (some pp) m mc] (B :: SA.parts ps :: L) (fun v L' => v = .agg ((sha (cat ps)).map v8).toArray ∧ L' = B :: SA.parts ps :: L) := by
  have hB : Reads B 1 (.slice (some pp) m mc) m (ps.map pv) := hv ▸ hB0
  clear hB0 hv
  refine Fn.of (N := 82) Try.func56 rfl rfl ?_
  intro Xh
  refine TC.know (reads_cap hB inn) ?_
  rintro ⟨hmc, hcm, -, -⟩
  simp only [maxLen] at hcm
  refine TC.seq ?_
  refine TC.region ?_
  refine TL.eff rfl rfl rfl (X.alloc rfl zc101) ?_
  rintro _ _ ⟨b2, rfl, rfl⟩
  refine TL.nil ?_
  refine TQ.next ?_
  refine TC.seq ?_
  refine TC.region ?_
  refine TL.val rfl rfl rfl (Y.buildM rfl rfl Try.underlying109 sz22 zc109 rfl rfl rfl (by first | exact (by simp only [List.all_cons, List.all_nil, Value.oneCell', Bool.and_self]) | rfl)) ?_
  refine TL.eff rfl rfl rfl (X.alloc rfl zc109) ?_
  rintro _ _ ⟨b3, rfl, rfl⟩
  refine TL.eff0 rfl rfl (by first | exact X.storeAll rfl sz109 szz rfl rfl (by simp [Value.oneCell']) pul szz | exact X.storeAgg rfl sz109 szz rfl rfl (by simp [Value.oneCell']) pul szz (writeM (by ((try simp only [List.length_set, List.length_map, List.length_append, List.length_replicate]); omega)))) ?_
  rintro _ _ rfl
  refine TL.nil ?_
  refine TQ.next ?_
  refine TC.seq ?_
  refine TC.region ?_
  refine TL.val rfl rfl rfl (Y.assign rfl rfl) ?_
  refine TL.nil ?_
  refine TQ.next ?_
  refine TC.seq ?_
  refine TC.region ?_
  refine TL.val rfl rfl rfl (Y.assign rfl rfl) ?_
  refine TL.nil ?_
  refine TQ.next ?_
  refine TC.seq ?_
  refine TC.seq ?_
  refine TC.to (Ent.nilOwn 5 1) ?_
  refine TC.region ?_
  refine TL.val rfl rfl rfl (Y.move rfl rfl) ?_
  refine TL.val rfl rfl rfl (Y.len rfl Try.underlying24 rfl) ?_
  refine TL.val rfl rfl rfl (Y.move rfl rfl) ?_
  refine TL.nil ?_
  refine TQ.next ?_
  refine TC.block ?_
  refine TC.loopF (ι := Nat × Option Addr × Nat) [] (fun i => i.1 ≤ m) (fun i => [(14, some (vN i.1)), (5, some (v64 (UInt64.ofNat (cat (ps.take i.1)).length))), (4, some (.slice i.2.1 ((cat (ps.take i.1)).length % 64) i.2.2))]) (fun i => [SA.blk b3 ((runB H0 (cat (ps.take i.1)) ((cat (ps.take i.1)).length / 64)).map v32).toArray 109, SA.owns 5 1 (.slice i.2.1 ((cat (ps.take i.1)).length % 64) i.2.2) ((cat (ps.take i.1)).length % 64) (((cat (ps.take i.1)).drop (64 * ((cat (ps.take i.1)).length / 64))).map v8)]) (fun i => m - i.1) ((0, none, 0)) (by omega) ⟨rfl, by rw [cat_zero]; rfl, by rw [cat_zero]; rfl, trivial⟩ (by simp only [cat_zero, List.length_nil, Nat.zero_mod, Nat.zero_div, runB, List.drop_nil, Nat.mul_zero, List.map_nil]; exact Pulls.cons pul (Pulls.cons pul Pulls.nil)) ?_
  rintro ⟨k, a, cap⟩ hk F' L' rfl hL'
  simp only [List.cons_append, List.nil_append] at hL'
  subst hL'
  have hle := cat_take_le ps k; have hle2 := cat_take_le ps (k + 1); dsimp only at hk ⊢
  refine TC.seq ?_
  refine TC.region ?_
  refine TL.val rfl rfl rfl (Y.bin rfl rfl rfl (br_ltN)) ?_
  refine TL.nil ?_
  refine TQ.next ?_
  refine TC.seq ?_
  refine TC.cond rfl (fun c0 => ?_) (fun c0 => ?_)
  · try simp only [decide_eq_true_eq, decide_eq_false_iff_not, Bool.not_eq_true', Bool.not_eq_false', Bool.and_eq_true, Bool.or_eq_true, Nat.not_lt, Nat.not_le, beq_iff_eq, bne_iff_ne] at c0
    refine TC.skip ?_
    refine TQ.next ?_
    refine TC.seq ?_
    refine TC.block ?_
    refine TC.seq ?_
    refine TC.region ?_
    refine TL.val rfl rfl rfl (by first | exact Y.indexSlB rfl sl24 rfl rfl (by omega) nqq | exact Y.indexSl rfl sl24 rfl rfl (by omega) nqq) ?_
    refine TL.val rfl rfl rfl (Y.load rfl sc23 rfl ceoD) ?_
    refine TL.val rfl rfl rfl (Y.assign rfl rfl) ?_
    refine TL.nil ?_
    have hmem : ps.getD k default ∈ ps := getD_mem' (by omega)
    have hcat := cat_take_succ (d := default) (show k < ps.length by omega)
    generalize ps.getD k default = x at hmem hcat ⊢
    generalize hT : cat (ps.take k) = T at hle hcat ⊢
    obtain ⟨T', hT'⟩ : ∃ T', T' = T ++ x.2.2 := ⟨_, rfl⟩
    have hTl : T'.length = T.length + x.2.2.length := by rw [hT', List.length_append]
    have hTb : T'.length ≤ (cat ps).length := by rw [hT', ← hcat]; exact hle2
    refine TQ.next ?_
    refine TC.seq ?_
    refine TC.region ?_
    refine TL.val rfl rfl rfl (Y.move rfl rfl) ?_
    refine TL.val rfl rfl rfl (Y.move rfl rfl) ?_
    refine TL.val rfl rfl rfl (Y.len rfl Try.underlying23 rfl) ?_
    refine TL.val rfl rfl rfl (Y.conv rfl Try.underlying3 Try.underlying32 rfl (cv_N_64)) ?_
    refine TL.val rfl rfl rfl (Y.bin rfl rfl rfl (br_add64)) ?_
    refine TL.val rfl rfl rfl (Y.assign rfl rfl) ?_
    refine TL.nil ?_
    refine TQ.next ?_
    refine TC.seq ?_
    refine TC.region ?_
    refine TL.val rfl rfl rfl (Y.move rfl rfl) ?_
    refine TL.val rfl rfl rfl (Y.move rfl rfl) ?_
    refine TL.eff rfl rfl rfl (X.appendS rfl el23 rfl pul rfl (Src.parts Try.underlying23 inn hmem) (by simp only [maxLen]; omega) (by omega)) ?_
    rintro _ _ ⟨a25, c25, rfl, rfl⟩
    refine TL.val rfl rfl rfl (Y.assign rfl rfl) ?_
    refine TL.nil ?_
    refine TQ.next ?_
    refine TC.block ?_
    have e1 : T.length % 64 + x.2.2.length = T'.length - 64 * (T.length / 64) := by omega
    have e2 : (T.drop (64 * (T.length / 64))).map v8 ++ x.2.2.map v8 = (T'.drop (64 * (T.length / 64))).map v8 := by rw [hT', List.drop_append_of_le_length (by omega), List.map_append]
    have e3 : runB H0 T (T.length / 64) = runB H0 T' (T.length / 64) := by rw [hT', runB_append _ _ _ _ (by omega)]
    rw [e1, e2, e3]
    refine TC.loopF (ι := Nat × Option Addr × Nat) [] (fun i => 64 * i.1 ≤ T'.length) (fun i => [(4, some (.slice i.2.1 (T'.length - 64 * i.1) i.2.2))]) (fun i => [SA.blk b3 ((runB H0 T' i.1).map v32).toArray 109, SA.owns 5 1 (.slice i.2.1 (T'.length - 64 * i.1) i.2.2) (T'.length - 64 * i.1) ((T'.drop (64 * i.1)).map v8)]) (fun i => T'.length - 64 * i.1) ((T.length / 64, _, _)) (by show 64 * (T.length / 64) ≤ T'.length; omega) ⟨rfl, trivial⟩ (Pulls.cons pul (Pulls.cons pul Pulls.nil)) ?_
    rintro ⟨q, a2, cap2⟩ hq F' L' rfl hL'
    simp only [List.cons_append, List.nil_append] at hL'
    subst hL'
    dsimp only at hq ⊢
    refine TC.seq ?_
    refine TC.seq ?_
    refine TC.region ?_
    refine TL.val rfl rfl rfl (Y.move rfl rfl) ?_
    refine TL.val rfl rfl rfl (Y.len rfl Try.underlying23 rfl) ?_
    refine TL.val rfl rfl rfl (Y.bin rfl rfl rfl (br_geN (n := 64))) ?_
    refine TL.nil ?_
    refine TQ.next ?_
    refine TC.cond rfl (fun c1 => ?_) (fun c1 => ?_)
    · try simp only [decide_eq_true_eq, decide_eq_false_iff_not, Bool.not_eq_true', Bool.not_eq_false', Bool.and_eq_true, Bool.or_eq_true, Nat.not_lt, Nat.not_le, beq_iff_eq, bne_iff_ne] at c1
      refine TC.know (owns_some inn (by omega)) ?_
      rintro ⟨g2, off2, rfl⟩
      refine TC.skip ?_
      refine TQ.next ?_
      refine TC.block ?_
      refine TC.seq ?_
      refine TC.region ?_
      refine TL.val rfl rfl rfl (Y.move rfl rfl) ?_
      refine TL.eff rfl rfl rfl (X.call rfl Try.func57 (by kernel_rfl) rfl rfl (Fn.pre (block_fn b3 _ _ _ _ (runB H0 T' q) (T'.drop (64 * q)) _ (Reads.owns (e := 5)) (by rw [runB_len]; rfl) (by omega) (by simp) _) (Ent.cons pul (Ent.cons pul Ent.refl)))) ?_
      rintro _ _ ⟨rfl, rfl⟩
      refine TL.nil ?_
      refine TQ.next ?_
      refine TC.region ?_
      refine TL.val rfl rfl rfl (Y.move rfl rfl) ?_
      refine TL.val rfl rfl rfl (Y.sliceLo (k := 64) rfl Try.underlying23 sz5 rfl rfl (by omega)) ?_
      refine TL.val rfl rfl rfl (Y.assign rfl rfl) ?_
      refine TL.nil ?_
      refine TQ.block_normal ?_
      refine TQ.to (Ent.trans (Pull.ent pul) (Ent.dropOwn (k := 64) (by omega))) ?_
      have e4 : T'.length - 64 * q - 64 = T'.length - 64 * (q + 1) := by omega
      have e5 : ((T'.drop (64 * q)).map v8).drop (64 * 1) = (T'.drop (64 * (q + 1))).map v8 := by rw [← List.map_drop, List.drop_drop]; congr 2
      unfold cutV
      rw [e4, e5]
      refine TQ.loopF ((q + 1, _, _)) (by show 64 * (q + 1) ≤ T'.length; omega) (by show T'.length - 64 * (q + 1) < T'.length - 64 * q; omega) ⟨rfl, trivial⟩ (by (repeat first | apply Grow.refl | apply Grow.step | apply Grow.app)) ?_ ?_ ?_
      · kernel_rfl
      · rfl
      · simp only [List.cons_append, List.nil_append]
        exact ett
    · try simp only [decide_eq_true_eq, decide_eq_false_iff_not, Bool.not_eq_true', Bool.not_eq_false', Bool.and_eq_true, Bool.or_eq_true, Nat.not_lt, Nat.not_le, beq_iff_eq, bne_iff_ne] at c1
      refine TC.exit ?_
      refine TQ.then_exit ?_
      refine TQ.then_exit ?_
      refine TQ.block_exit ?_
      refine TQ.block_normal ?_
      refine TQ.next ?_
      refine TC.region ?_
      refine TL.val rfl rfl rfl (Y.bin rfl rfl rfl (br_addN (n := 1) (by omega))) ?_
      refine TL.val rfl rfl rfl (Y.move rfl rfl) ?_
      refine TL.nil ?_
      have hTT : T' = cat (ps.take (k + 1)) := hT'.trans hcat.symm
      obtain rfl : q = T'.length / 64 := by omega
      have e6 : T'.length - 64 * (T'.length / 64) = T'.length % 64 := by omega
      rw [e6]
      subst hTT
      refine TQ.loopF ((k + 1, _, _)) (by omega) (by omega) ⟨rfl, by rw [hcat, List.length_append, UInt64.ofNat_add]; rfl, rfl, trivial⟩ (by (repeat first | apply Grow.refl | apply Grow.step | apply Grow.app)) ?_ ?_ ?_
      · kernel_rfl
      · rfl
      · simp only [List.cons_append, List.nil_append]
        exact ett
  · try simp only [decide_eq_true_eq, decide_eq_false_iff_not, Bool.not_eq_true', Bool.not_eq_false', Bool.and_eq_true, Bool.or_eq_true, Nat.not_lt, Nat.not_le, beq_iff_eq, bne_iff_ne] at c0
    refine TC.exit ?_
    refine TQ.then_exit ?_
    refine TQ.then_exit ?_
    refine TQ.block_exit ?_
    refine TQ.next ?_
    refine TC.seq ?_
    obtain rfl : k = m := by omega
    have eT : ps.take k = ps := List.take_of_length_le (by omega)
    rw [eT]
    generalize cat ps = T at hlen ⊢
    have ez : zeros T.length = (119 - T.length % 64) % 64 := rfl
    refine TC.region ?_
    refine TL.val rfl rfl rfl (Y.move rfl rfl) ?_
    refine TL.eff rfl rfl rfl (X.lit rfl el23 rfl rfl rfl (by decide) rfl) ?_
    rintro _ _ ⟨g35, rfl, rfl⟩
    refine TL.eff rfl rfl rfl (X.appendS rfl el23 rfl pul rfl (by first | exact Src.owns Try.underlying23 inn | exact Src.rds Try.underlying23 inn | exact Src.reads (by assumption) Try.underlying23 inn) (by simp only [maxLen]; omega) (by omega)) ?_
    rintro _ _ ⟨a36, c36, rfl, rfl⟩
    refine TL.val rfl rfl rfl (Y.assign rfl rfl) ?_
    refine TL.nil ?_
    refine TQ.next ?_
    refine TC.seq ?_
    refine TC.block ?_
    rw [rz_0]
    refine TC.loopF (ι := Nat × Option Addr × Nat) [] (fun i => i.1 ≤ zeros T.length) (fun i => [(4, some (.slice i.2.1 (T.length % 64 + 1 + i.1) i.2.2))]) (fun i => [SA.owns 5 1 (.slice i.2.1 (T.length % 64 + 1 + i.1) i.2.2) (T.length % 64 + 1 + i.1) ((rz T i.1).map v8)]) (fun i => zeros T.length - i.1) ((0, _, _)) (Nat.zero_le _) ⟨rfl, trivial⟩ (Pulls.cons pul Pulls.nil) ?_
    rintro ⟨j, a4, cap4⟩ hj F' L' rfl hL'
    simp only [List.cons_append, List.nil_append] at hL'
    subst hL'
    dsimp only at hj ⊢
    refine TC.seq ?_
    refine TC.seq ?_
    refine TC.region ?_
    refine TL.val rfl rfl rfl (Y.move rfl rfl) ?_
    refine TL.val rfl rfl rfl (Y.len rfl Try.underlying23 rfl) ?_
    refine TL.val rfl rfl rfl (Y.bin rfl rfl rfl (br_remN (n := 64) (by omega))) ?_
    refine TL.val rfl rfl rfl (Y.bin rfl rfl rfl (br_neN (n := 56))) ?_
    refine TL.nil ?_
    refine TQ.next ?_
    refine TC.cond rfl (fun c2 => ?_) (fun c2 => ?_)
    · try simp only [decide_eq_true_eq, decide_eq_false_iff_not, Bool.not_eq_true', Bool.not_eq_false', Bool.and_eq_true, Bool.or_eq_true, Nat.not_lt, Nat.not_le, beq_iff_eq, bne_iff_ne] at c2
      have hj2 : j < zeros T.length := by omega
      refine TC.skip ?_
      refine TQ.next ?_
      refine TC.block ?_
      refine TC.region ?_
      refine TL.val rfl rfl rfl (Y.move rfl rfl) ?_
      refine TL.eff rfl rfl rfl (X.lit rfl el23 rfl rfl rfl (by decide) rfl) ?_
      rintro _ _ ⟨g42, rfl, rfl⟩
      refine TL.eff rfl rfl rfl (X.appendS rfl el23 rfl pul rfl (by first | exact Src.owns Try.underlying23 inn | exact Src.rds Try.underlying23 inn | exact Src.reads (by assumption) Try.underlying23 inn) (by simp only [maxLen]; omega) (by omega)) ?_
      rintro _ _ ⟨a43, c43, rfl, rfl⟩
      refine TL.val rfl rfl rfl (Y.assign rfl rfl) ?_
      refine TL.nil ?_
      refine TQ.block_normal ?_
      rw [rz_s]
      refine TQ.loopF ((j + 1, _, _)) (by show j + 1 ≤ zeros T.length; omega) (by show zeros T.length - (j + 1) < zeros T.length - j; omega) ⟨rfl, trivial⟩ (by (repeat first | apply Grow.refl | apply Grow.step | apply Grow.app)) ?_ ?_ ?_
      · kernel_rfl
      · rfl
      · simp only [List.cons_append, List.nil_append]
        exact ett
    · try simp only [decide_eq_true_eq, decide_eq_false_iff_not, Bool.not_eq_true', Bool.not_eq_false', Bool.and_eq_true, Bool.or_eq_true, Nat.not_lt, Nat.not_le, beq_iff_eq, bne_iff_ne] at c2
      refine TC.exit ?_
      refine TQ.then_exit ?_
      refine TQ.then_exit ?_
      refine TQ.block_exit ?_
      refine TQ.next ?_
      refine TC.seq ?_
      refine TC.seq ?_
      obtain rfl : j = zeros T.length := by omega
      rw [rl_0]
      refine TC.region ?_
      refine TL.val rfl rfl rfl (Y.move rfl rfl) ?_
      refine TL.nil ?_
      refine TQ.next ?_
      refine TC.block ?_
      refine TC.loopF (ι := Nat × Option Addr × Nat) [] (fun i => i.1 ≤ 8) (fun i => [(44, some (vN i.1)), (4, some (.slice i.2.1 (T.length % 64 + 1 + zeros T.length + i.1) i.2.2))]) (fun i => [SA.owns 5 1 (.slice i.2.1 (T.length % 64 + 1 + zeros T.length + i.1) i.2.2) (T.length % 64 + 1 + zeros T.length + i.1) ((rl T i.1).map v8)]) (fun i => 8 - i.1) ((0, _, _)) (by omega) ⟨rfl, rfl, trivial⟩ (Pulls.cons pul Pulls.nil) ?_
      rintro ⟨j, a6, cap6⟩ hj6 F' L' rfl hL'
      simp only [List.cons_append, List.nil_append] at hL'
      subst hL'
      dsimp only at hj6 ⊢
      refine TC.seq ?_
      refine TC.region ?_
      refine TL.val rfl rfl rfl (Y.bin rfl rfl rfl (br_ltN (n := 8))) ?_
      refine TL.nil ?_
      refine TQ.next ?_
      refine TC.seq ?_
      refine TC.cond rfl (fun c3 => ?_) (fun c3 => ?_)
      · try simp only [decide_eq_true_eq, decide_eq_false_iff_not, Bool.not_eq_true', Bool.not_eq_false', Bool.and_eq_true, Bool.or_eq_true, Nat.not_lt, Nat.not_le, beq_iff_eq, bne_iff_ne] at c3
        refine TC.skip ?_
        refine TQ.next ?_
        refine TC.seq ?_
        refine TC.block ?_
        refine TC.seq ?_
        refine TC.region ?_
        refine TL.val rfl rfl rfl (Y.move rfl rfl) ?_
        refine TL.val rfl rfl rfl (Y.assign rfl rfl) ?_
        refine TL.nil ?_
        refine TQ.next ?_
        refine TC.region ?_
        refine TL.val rfl rfl rfl (Y.move rfl rfl) ?_
        refine TL.val rfl rfl rfl (Y.move rfl rfl) ?_
        refine TL.val rfl rfl rfl (Y.bin rfl rfl rfl (br_mul64 (y := 8))) ?_
        refine TL.val rfl rfl rfl (Y.move rfl rfl) ?_
        refine TL.val rfl rfl rfl (Y.bin rfl rfl rfl (br_mulN (m := 8) (by omega))) ?_
        refine TL.val rfl rfl rfl (Y.bin rfl rfl rfl (br_subN (m := 56) (by omega) (by omega))) ?_
        refine TL.val rfl rfl rfl (Y.bin rfl rfl rfl (br_shr64)) ?_
        refine TL.val rfl rfl rfl (Y.conv rfl Try.underlying32 Try.underlying5 rfl (cv_64_8)) ?_
        refine TL.eff rfl rfl rfl (X.lit rfl el23 rfl rfl rfl (by decide) rfl) ?_
        rintro _ _ ⟨g55, rfl, rfl⟩
        refine TL.eff rfl rfl rfl (X.appendS rfl el23 rfl pul rfl (by first | exact Src.owns Try.underlying23 inn | exact Src.rds Try.underlying23 inn | exact Src.reads (by assumption) Try.underlying23 inn) (by simp only [maxLen]; omega) (by omega)) ?_
        rintro _ _ ⟨a56, c56, rfl, rfl⟩
        refine TL.val rfl rfl rfl (Y.assign rfl rfl) ?_
        refine TL.nil ?_
        refine TQ.block_normal ?_
        refine TQ.next ?_
        refine TC.region ?_
        refine TL.val rfl rfl rfl (Y.bin rfl rfl rfl (br_addN (n := 1) (by omega))) ?_
        refine TL.val rfl rfl rfl (Y.move rfl rfl) ?_
        refine TL.nil ?_
        rw [rl_s]
        refine TQ.loopF ((j + 1, _, _)) (by show j + 1 ≤ 8; omega) (by show 8 - (j + 1) < 8 - j; omega) ⟨rfl, rfl, trivial⟩ (by (repeat first | apply Grow.refl | apply Grow.step | apply Grow.app)) ?_ ?_ ?_
        · kernel_rfl
        · rfl
        · simp only [List.cons_append, List.nil_append]
          exact ett
      · try simp only [decide_eq_true_eq, decide_eq_false_iff_not, Bool.not_eq_true', Bool.not_eq_false', Bool.and_eq_true, Bool.or_eq_true, Nat.not_lt, Nat.not_le, beq_iff_eq, bne_iff_ne] at c3
        refine TC.exit ?_
        refine TQ.then_exit ?_
        refine TQ.then_exit ?_
        refine TQ.block_exit ?_
        refine TQ.next ?_
        refine TC.seq ?_
        refine TC.block ?_
        obtain rfl : j = 8 := by omega
        have hMl := padded_len T
        have hMm := padded_mod T
        have e4 : T.length % 64 + 1 + zeros T.length + 8 = (padded T).length - 64 * (T.length / 64) := by omega
        have e6 : runB H0 T (T.length / 64) = runB H0 (padded T) (T.length / 64) := by rw [padded, runB_append _ _ _ _ (by omega)]
        rw [e4, rl_8, e6]
        refine TC.loopF (ι := Nat × Option Addr × Nat) [] (fun i => 64 * i.1 ≤ (padded T).length) (fun i => [(4, some (.slice i.2.1 ((padded T).length - 64 * i.1) i.2.2))]) (fun i => [SA.blk b3 ((runB H0 (padded T) i.1).map v32).toArray 109, SA.owns 5 1 (.slice i.2.1 ((padded T).length - 64 * i.1) i.2.2) ((padded T).length - 64 * i.1) (((padded T).drop (64 * i.1)).map v8)]) (fun i => (padded T).length - 64 * i.1) ((T.length / 64, _, _)) (by show 64 * (T.length / 64) ≤ (padded T).length; omega) ⟨rfl, trivial⟩ (Pulls.cons pul (Pulls.cons pul Pulls.nil)) ?_
        rintro ⟨q, a2, cap2⟩ hq F' L' rfl hL'
        simp only [List.cons_append, List.nil_append] at hL'
        subst hL'
        dsimp only at hq ⊢
        refine TC.seq ?_
        refine TC.seq ?_
        refine TC.region ?_
        refine TL.val rfl rfl rfl (Y.move rfl rfl) ?_
        refine TL.val rfl rfl rfl (Y.len rfl Try.underlying23 rfl) ?_
        refine TL.val rfl rfl rfl (Y.bin rfl rfl rfl (br_gtN (n := 0))) ?_
        refine TL.nil ?_
        refine TQ.next ?_
        refine TC.cond rfl (fun c4 => ?_) (fun c4 => ?_)
        · try simp only [decide_eq_true_eq, decide_eq_false_iff_not, Bool.not_eq_true', Bool.not_eq_false', Bool.and_eq_true, Bool.or_eq_true, Nat.not_lt, Nat.not_le, beq_iff_eq, bne_iff_ne] at c4
          refine TC.know (owns_some inn (by omega)) ?_
          rintro ⟨g2, off2, rfl⟩
          refine TC.skip ?_
          refine TQ.next ?_
          refine TC.seq ?_
          refine TC.block ?_
          refine TC.region ?_
          refine TL.val rfl rfl rfl (Y.move rfl rfl) ?_
          refine TL.eff rfl rfl rfl (X.call rfl Try.func57 (by kernel_rfl) rfl rfl (Fn.pre (block_fn b3 _ _ _ _ (runB H0 (padded T) q) ((padded T).drop (64 * q)) _ (Reads.owns (e := 5)) (by rw [runB_len]; rfl) (by omega) (by simp) _) (Ent.cons pul (Ent.cons pul Ent.refl)))) ?_
          rintro _ _ ⟨rfl, rfl⟩
          refine TL.nil ?_
          refine TQ.block_normal ?_
          refine TQ.next ?_
          refine TC.region ?_
          refine TL.val rfl rfl rfl (Y.move rfl rfl) ?_
          refine TL.val rfl rfl rfl (Y.sliceLo (k := 64) rfl Try.underlying23 sz5 rfl rfl (by omega)) ?_
          refine TL.val rfl rfl rfl (Y.assign rfl rfl) ?_
          refine TL.nil ?_
          refine TQ.to (Ent.trans (Pull.ent pul) (Ent.dropOwn (k := 64) (by omega))) ?_
          have e4 : (padded T).length - 64 * q - 64 = (padded T).length - 64 * (q + 1) := by omega
          have e5 : (((padded T).drop (64 * q)).map v8).drop (64 * 1) = ((padded T).drop (64 * (q + 1))).map v8 := by rw [← List.map_drop, List.drop_drop]; congr 2
          unfold cutV
          rw [e4, e5]
          refine TQ.loopF ((q + 1, _, _)) (by show 64 * (q + 1) ≤ (padded T).length; omega) (by show (padded T).length - 64 * (q + 1) < (padded T).length - 64 * q; omega) ⟨rfl, trivial⟩ (by (repeat first | apply Grow.refl | apply Grow.step | apply Grow.app)) ?_ ?_ ?_
          · kernel_rfl
          · rfl
          · simp only [List.cons_append, List.nil_append]
            exact ett
        · try simp only [decide_eq_true_eq, decide_eq_false_iff_not, Bool.not_eq_true', Bool.not_eq_false', Bool.and_eq_true, Bool.or_eq_true, Nat.not_lt, Nat.not_le, beq_iff_eq, bne_iff_ne] at c4
          refine TC.exit ?_
          refine TQ.then_exit ?_
          refine TQ.then_exit ?_
          refine TQ.block_exit ?_
          refine TQ.next ?_
          refine TC.seq ?_
          obtain rfl : q = (padded T).length / 64 := by omega
          have hrl := runB_len H0 (padded T) ((padded T).length / 64)
          replace hrl : (runB H0 (padded T) ((padded T).length / 64)).length = 5 := hrl
          generalize hH : runB H0 (padded T) ((padded T).length / 64) = H at hrl ⊢
          refine TC.region ?_
          refine TL.eff rfl rfl rfl (X.alloc rfl zc101) ?_
          rintro _ _ ⟨b9, rfl, rfl⟩
          refine TL.nil ?_
          refine TQ.next ?_
          refine TC.seq ?_
          refine TC.seq ?_
          refine TC.region ?_
          refine TL.val rfl rfl rfl (Y.move rfl rfl) ?_
          refine TL.nil ?_
          refine TQ.next ?_
          refine TC.block ?_
          refine TC.loopF (ι := Nat) [] (fun k => k ≤ 20) (fun k => [(65, some (vN k))]) (fun k => [SA.blk b9 ((outN H k).map v8).toArray 101]) (fun k => 20 - k) (0) (by omega) ⟨rfl, trivial⟩ (Pulls.cons pul Pulls.nil) ?_
          rintro k' hk' F' L' rfl hL'
          simp only [List.cons_append, List.nil_append] at hL'
          subst hL'
          have hol := outN_len H k'
          refine TC.seq ?_
          refine TC.region ?_
          refine TL.val rfl rfl rfl (Y.bin rfl rfl rfl (br_ltN (n := 20))) ?_
          refine TL.nil ?_
          refine TQ.next ?_
          refine TC.seq ?_
          refine TC.cond rfl (fun c5 => ?_) (fun c5 => ?_)
          · try simp only [decide_eq_true_eq, decide_eq_false_iff_not, Bool.not_eq_true', Bool.not_eq_false', Bool.and_eq_true, Bool.or_eq_true, Nat.not_lt, Nat.not_le, beq_iff_eq, bne_iff_ne] at c5
            refine TC.skip ?_
            refine TQ.next ?_
            refine TC.seq ?_
            refine TC.block ?_
            refine TC.seq ?_
            refine TC.region ?_
            refine TL.val rfl rfl rfl (Y.move rfl rfl) ?_
            refine TL.val rfl rfl rfl (Y.assign rfl rfl) ?_
            refine TL.nil ?_
            refine TQ.next ?_
            refine TC.region ?_
            refine TL.val rfl rfl rfl (Y.move rfl rfl) ?_
            refine TL.val rfl rfl rfl (Y.move rfl rfl) ?_
            refine TL.val rfl rfl rfl (Y.bin rfl rfl rfl (br_quoN (n := 4) (by omega) (by omega))) ?_
            refine TL.val rfl rfl rfl (Y.indexArr rfl ar109 rfl rfl (by omega) nqq) ?_
            refine TL.val rfl rfl rfl (Y.load rfl sc22 rfl ceo32) ?_
            refine TL.val rfl rfl rfl (Y.move rfl rfl) ?_
            refine TL.val rfl rfl rfl (Y.bin rfl rfl rfl (br_remN (n := 4) (by omega))) ?_
            refine TL.val rfl rfl rfl (Y.bin rfl rfl rfl (br_mulN (m := 8) (by omega))) ?_
            refine TL.val rfl rfl rfl (Y.bin rfl rfl rfl (br_subN (m := 24) (by omega) (by omega))) ?_
            refine TL.val rfl rfl rfl (Y.bin rfl rfl rfl (br_shr32)) ?_
            refine TL.val rfl rfl rfl (Y.conv rfl Try.underlying22 Try.underlying5 rfl (cv_32_8)) ?_
            refine TL.val rfl rfl rfl (Y.indexArr rfl ar101 rfl rfl (by omega) nqq) ?_
            refine TL.eff0 rfl rfl (by first | exact X.store rfl sz5 rfl rfl rfl pul lnn (by first | exact setM | rfl) | exact X.storeOwn rfl sz5 rfl (Nat.zero_add _).symm rfl rfl pul lnn (by first | exact setML | rfl) | exact X.storeOwn rfl sz5 rfl rfl rfl rfl pul lnn (by first | exact setML | rfl)) ?_
            rintro _ _ rfl
            refine TL.nil ?_
            refine TQ.block_normal ?_
            refine TQ.next ?_
            refine TC.region ?_
            refine TL.val rfl rfl rfl (Y.bin rfl rfl rfl (br_addN (n := 1) (by omega))) ?_
            refine TL.val rfl rfl rfl (Y.move rfl rfl) ?_
            refine TL.nil ?_
            skip
            refine TQ.loopF (k' + 1) (by omega) (by omega) ⟨rfl, trivial⟩ (by (repeat first | apply Grow.refl | apply Grow.step | apply Grow.app)) ?_ ?_ ?_
            · kernel_rfl
            · rfl
            · simp only [List.cons_append, List.nil_append]
              exact ett
          · try simp only [decide_eq_true_eq, decide_eq_false_iff_not, Bool.not_eq_true', Bool.not_eq_false', Bool.and_eq_true, Bool.or_eq_true, Nat.not_lt, Nat.not_le, beq_iff_eq, bne_iff_ne] at c5
            refine TC.exit ?_
            refine TQ.then_exit ?_
            refine TQ.then_exit ?_
            refine TQ.block_exit ?_
            refine TQ.next ?_
            refine TC.seq ?_
            obtain rfl : k' = 20 := by omega
            have hol := outN_len H 20
            refine TC.region ?_
            refine TL.val rfl rfl rfl (Y.loadAgg rfl ag101 rfl (Cels.full inn) (by ((try simp only [List.length_map, List.length_set, List.length_replicate]); omega))) ?_
            refine TL.eff0 rfl rfl (by first | exact X.storeAll rfl sz101 szz rfl rfl (by simp [Value.oneCell']) pul szz | exact X.storeAgg rfl sz101 szz rfl rfl (by simp [Value.oneCell']) pul szz (writeM (by ((try simp only [List.length_set, List.length_map, List.length_append, List.length_replicate]); omega)))) ?_
            rintro _ _ rfl
            refine TL.nil ?_
            refine TQ.next ?_
            refine TC.ret ?_
            have hsha : sha T = outN H 20 := by rw [sha, hH]
            rw [← hsha]
            refine TQ.retE (resC rfl ag101 rfl (Cels.full inn) szz) (⟨rfl, rfl⟩) ?_
            exact ett
end sha
end Go.Proofs.Ytomplpdeeomehaa

/- The document's SHA-1. -/
namespace Go.Proofs.Ytomplpdeeomehaa
set_option linter.unusedVariables false
set_option linter.unusedSimpArgs false
open Go.RowKit
namespace sha
--FACTS
theorem bits32 {x y : UInt32} (h : ∀ i, x.toBitVec.getLsbD i = y.toBitVec.getLsbD i) : x = y := UInt32.toBitVec_inj.1 (BitVec.eq_of_getLsbD_eq fun i _ => h i)
theorem ch_eq (b c d : UInt32) : (b &&& c) ||| (~~~b &&& d) = d ^^^ (b &&& (c ^^^ d)) := by
  apply bits32; intro i
  simp only [UInt32.toBitVec_or, UInt32.toBitVec_and, UInt32.toBitVec_xor, UInt32.toBitVec_not, BitVec.getLsbD_or, BitVec.getLsbD_and, BitVec.getLsbD_xor, BitVec.getLsbD_not]
  by_cases hi : i < 32
  · simp only [hi, decide_true, Bool.true_and]
    cases b.toBitVec.getLsbD i <;> cases c.toBitVec.getLsbD i <;> cases d.toBitVec.getLsbD i <;> rfl
  · have : d.toBitVec.getLsbD i = false := BitVec.getLsbD_of_ge _ _ (by omega)
    have : b.toBitVec.getLsbD i = false := BitVec.getLsbD_of_ge _ _ (by omega)
    simp_all
theorem maj_eq (b c d : UInt32) : (b &&& c) ||| (b &&& d) ||| (c &&& d) = (b &&& c) ||| (d &&& (b ||| c)) := by
  apply bits32; intro i
  simp only [UInt32.toBitVec_or, UInt32.toBitVec_and, UInt32.toBitVec_xor, UInt32.toBitVec_not, BitVec.getLsbD_or, BitVec.getLsbD_and, BitVec.getLsbD_xor, BitVec.getLsbD_not]
  cases b.toBitVec.getLsbD i <;> cases c.toBitVec.getLsbD i <;> cases d.toBitVec.getLsbD i <;> rfl
theorem ffR_0 {k : Nat} {b c d : UInt32} (h : k < 20) : ff (k / 20) b c d = (b &&& c) ||| (~~~b &&& d) := by rw [ch_eq, ff_0 (by omega)]
theorem ffR_1 {k : Nat} {b c d : UInt32} (h : 20 ≤ k) (h2 : k < 40) : ff (k / 20) b c d = b ^^^ c ^^^ d := ff_1 (by omega)
theorem ffR_2 {k : Nat} {b c d : UInt32} (h : 40 ≤ k) (h2 : k < 60) : ff (k / 20) b c d = (b &&& c) ||| (b &&& d) ||| (c &&& d) := by rw [maj_eq, ff_2 (by omega)]
theorem ffR_3 {k : Nat} {b c d : UInt32} (h : 60 ≤ k) : ff (k / 20) b c d = b ^^^ c ^^^ d := ff_3 (by omega) (by omega) (by omega)
theorem kkR_0 {k : Nat} (h : k < 20) : kk (k / 20) = 1518500249 := kk_0 (by omega)
theorem kkR_1 {k : Nat} (h : 20 ≤ k) (h2 : k < 40) : kk (k / 20) = 1859775393 := kk_1 (by omega)
theorem kkR_2 {k : Nat} (h : 40 ≤ k) (h2 : k < 60) : kk (k / 20) = 2400959708 := kk_2 (by omega)
theorem kkR_3 {k : Nat} (h : 60 ≤ k) : kk (k / 20) = 3395469782 := kk_3 (by omega) (by omega) (by omega)
theorem wordR (m : List UInt8) (o k : Nat) : shl32 (m.getD (o + 4 * k) 0).toUInt32 24 ||| shl32 (m.getD (o + 4 * k + 1) 0).toUInt32 16 ||| shl32 (m.getD (o + 4 * k + 2) 0).toUInt32 8 ||| (m.getD (o + 4 * k + 3) 0).toUInt32 = word (m.drop o) k := by
  simp only [word, getD_drop', Nat.add_assoc]
def rr (T : List UInt8) (j : Nat) : List UInt8 := T ++ ([128] ++ List.replicate j 0)
def rq (T : List UInt8) (i : Nat) : List UInt8 := T ++ ([128] ++ (List.replicate (zeros T.length) 0 ++ lenB (bitsN T) i))
theorem rr_0 (T : List UInt8) : ([] : List Value) ++ List.map v8 T ++ [Value.int .u8 128] = List.map v8 (rr T 0) := by simp [rr]
theorem rr_s (T : List UInt8) (j : Nat) : List.map v8 (rr T j) ++ [Value.int .u8 0] = List.map v8 (rr T (j + 1)) := by simp [rr, List.replicate_succ']
theorem rq_0 (T : List UInt8) : rr T (zeros T.length) = rq T 0 := by simp [rr, rq, lenB]
theorem rq_s (T : List UInt8) (j : Nat) : List.map v8 (rq T j) ++ [v8 (shr64 (bitsN T) (56 - 8 * j)).toUInt8] = List.map v8 (rq T (j + 1)) := by simp [rq, lenB_succ]
theorem list_len (s : S5) : s.list.length = 5 := rfl
theorem s5_list {H : List UInt32} (h : H.length = 5) : (s5 H).list = H := by
  match H, h with
  | [a, b, c, d, e], _ => rfl
end sha
end Go.Proofs.Ytomplpdeeomehaa
