/- Data that is read: lists of structs, slices in slices. No program is named. -/
import Derived.Test.YtomplpdeeomehaaHIter
namespace Go.Proofs.Ytomplpdeeomehaa
set_option linter.unusedVariables false
set_option linter.unusedSimpArgs false
open Go.ChangeShapes Go.WideShapes Go.ChangeAt Go.RowKit

/-- a slice that is read -/
structure G where
  sz : Nat
  v : Value
  n : Nat
  cells : List Value
/-- data with cells, and with slices that hang from them -/
class Dat (α : Type) where
  sz : Nat
  c : α → List Value
  cs : List α → List Value
  g : α → List G
  dflt : α
  cs_eq : ∀ l, cs l = l.flatMap c
  len : ∀ x, (c x).length = sz
  one : ∀ x, ∀ v ∈ c x, v.oneCell' = true
  pos : 0 < sz
theorem map_flat {α : Type} (f : α → Value) (l : List α) : l.map f = l.flatMap fun x => [f x] := by
  induction l with
  | nil => rfl
  | cons x r ih => simp [ih]
abbrev Dat.scalar {α : Type} (f : α → Value) (d : α) (h1 : ∀ x, (f x).oneCell' = true) : Dat α where
  sz := 1
  c x := [f x]
  cs l := l.map f
  g _ := []
  dflt := d
  cs_eq l := map_flat f l
  len _ := rfl
  one x v hv := by simp at hv; subst hv; exact h1 x
  pos := Nat.one_pos
abbrev vI (n : Int) : Value := .int .i64 n
abbrev vB (b : Bool) : Value := .bool b
abbrev vS (s : ByteArray) : Value := .string s
instance : Dat UInt8 := Dat.scalar v8 0 fun _ => rfl
instance : Dat UInt16 := Dat.scalar v16 0 fun _ => rfl
instance : Dat UInt32 := Dat.scalar v32 0 fun _ => rfl
instance : Dat UInt64 := Dat.scalar v64 0 fun _ => rfl
instance : Dat Int := Dat.scalar vI 0 fun _ => rfl
instance : Dat Nat := Dat.scalar vN 0 fun _ => rfl
instance : Dat Bool := Dat.scalar vB false fun _ => rfl
instance : Dat ByteArray := Dat.scalar vS .empty fun _ => rfl
/-- a slice and what it holds -/
structure Sl (α : Type) where
  a : Option Addr
  cap : Nat
  l : List α
abbrev Sl.v {α : Type} (s : Sl α) : Value := .slice s.a s.l.length s.cap
instance {α : Type} [Dat α] : Dat (Sl α) where
  sz := 1
  c s := [s.v]
  cs l := l.map Sl.v
  g s := ⟨Dat.sz α, s.v, s.l.length, Dat.cs s.l⟩ :: s.l.flatMap Dat.g
  dflt := ⟨none, 0, []⟩
  cs_eq l := map_flat _ l
  len _ := rfl
  one x v hv := by simp at hv; subst hv; rfl
  pos := Nat.one_pos
instance {α β : Type} [Dat α] [Dat β] : Dat (α × β) where
  sz := Dat.sz α + Dat.sz β
  c x := Dat.c x.1 ++ Dat.c x.2
  cs l := l.flatMap fun x => Dat.c x.1 ++ Dat.c x.2
  g x := Dat.g x.1 ++ Dat.g x.2
  dflt := (Dat.dflt, Dat.dflt)
  cs_eq _ := rfl
  len x := by simp [Dat.len]
  one x v hv := by
    rcases List.mem_append.1 hv with h | h
    · exact Dat.one _ _ h
    · exact Dat.one _ _ h
  pos := Nat.add_pos_left Dat.pos _
abbrev Bs := Sl UInt8
def SA.rdss (gs : List G) : SA := ⟨fun w _ R => ∀ q ∈ gs, (q.n ≠ 0 → ∀ k ∈ own q.v, R k) ∧ Rd w q.sz q.v q.n q.cells,
  fun h hg q hq => ⟨(h q hq).1, hg.rd0 (h q hq).2 (fun hn k hk => .inr ((h q hq).1 hn k hk))⟩⟩
def SA.dat {α : Type} [Dat α] (x : α) : SA := SA.rdss (Dat.g x)
theorem flat_get {α : Type} {c : α → List Value} {sz : Nat} (hl : ∀ x, (c x).length = sz) (d : α) : ∀ (l : List α) (i k : Nat), i < l.length → k < sz → (l.flatMap c)[i * sz + k]? = (c (l.getD i d))[k]?
  | [], i, k, hi, _ => by simp at hi
  | x :: l, 0, k, _, hk => by rw [List.flatMap_cons, List.getElem?_append_left (by rw [hl]; omega)]; simp
  | x :: l, i + 1, k, hi, hk => by
    have h1 := hl x
    rw [List.flatMap_cons, List.getElem?_append_right (by rw [h1, Nat.add_mul]; omega), h1, show (i + 1) * sz + k - sz = i * sz + k by rw [Nat.add_mul]; omega]
    rw [flat_get hl d l i k (by simpa using hi) hk]
    simp
theorem flat_len {α : Type} {c : α → List Value} {sz : Nat} (hl : ∀ x, (c x).length = sz) (l : List α) : (l.flatMap c).length = l.length * sz := by
  induction l with
  | nil => simp
  | cons x r ih => simp [hl, ih, Nat.add_mul]; omega
section
variable {α β : Type} [Dat α] [Dat β] {P : Program} {N : Nat} {F : FE} {As L L0 : List SA} {A : SA} {κ : Ctx} {code : Code} {Q : Exit → Act → World → Prop} {v : Value} {o : Oper} {x : Operand}
theorem Dat.cs_app (l m : List α) : Dat.cs (l ++ m) = Dat.cs l ++ Dat.cs m := by simp [Dat.cs_eq]
theorem Dat.cs_one (x : α) : Dat.cs [x] = Dat.c x := by simp [Dat.cs_eq]
theorem Dat.cs_len (l : List α) : (Dat.cs l).length = l.length * Dat.sz α := by rw [Dat.cs_eq]; exact flat_len Dat.len l
theorem Dat.cs_take (l : List α) (k : Nat) : Dat.cs (l.take k) = (Dat.cs l).take (k * Dat.sz α) := by
  rw [Dat.cs_eq, Dat.cs_eq]
  induction l generalizing k with
  | nil => simp
  | cons x r ih =>
    cases k with
    | zero => simp
    | succ k => rw [List.take_succ_cons, List.flatMap_cons, List.flatMap_cons, ih, Nat.add_mul, Nat.one_mul, Nat.add_comm, ← Dat.len x, List.take_length_add_append]
theorem Dat.cs_get {l : List α} {i k : Nat} (d : α) (hi : i < l.length) (hk : k < Dat.sz α) : (Dat.cs l)[i * Dat.sz α + k]? = (Dat.c (l.getD i d))[k]? := by rw [Dat.cs_eq]; exact flat_get Dat.len d l i k hi hk
theorem Reads.dat {s : Sl α} : Reads (SA.dat s) (Dat.sz α) s.v s.l.length (Dat.cs s.l) := fun w O R h => (h ⟨Dat.sz α, s.v, s.l.length, Dat.cs s.l⟩ (by simp [Dat.g])).2
theorem Reads.bytes {s : Bs} : Reads (SA.dat s) 1 (.slice s.a s.l.length s.cap) s.l.length (s.l.map v8) := Reads.dat
theorem Dup.rdss {gs : List G} : Dup (SA.rdss gs) := fun _ _ _ h => h
theorem Dup.dat {x : α} : Dup (SA.dat x) := Dup.rdss
theorem Ent.rdss_sub {gs hs : List G} (h : ∀ q ∈ hs, q ∈ gs) : Ent (SA.rdss gs :: L) (SA.rdss hs :: SA.rdss gs :: L) :=
  (Ent.dup Dup.rdss).trans (Ent.imp fun w O R k => ⟨O, R, fun q hq => k q (h q hq), fun _ h => h, fun _ h => .inr h⟩)
theorem Ent.elem {s : Sl α} {x : α} (hx : x ∈ s.l) : Ent (SA.dat s :: L) (SA.dat x :: SA.dat s :: L) := Ent.rdss_sub fun q hq => List.mem_cons_of_mem _ (List.mem_flatMap.2 ⟨x, hx, hq⟩)
theorem Ent.fst {x : α × β} : Ent (SA.dat x :: L) (SA.dat x.1 :: SA.dat x :: L) := Ent.rdss_sub fun q hq => List.mem_append_left _ hq
theorem Ent.snd {x : α × β} : Ent (SA.dat x :: L) (SA.dat x.2 :: SA.dat x :: L) := Ent.rdss_sub fun q hq => List.mem_append_right _ hq
theorem Ent.rdsOf {s : Sl α} : Ent (SA.dat s :: L) (SA.rds (Dat.sz α) s.v s.l.length (Dat.cs s.l) :: SA.dat s :: L) :=
  (Ent.dup Dup.dat).trans (Ent.imp fun w O R k => ⟨O, R, k ⟨Dat.sz α, s.v, s.l.length, Dat.cs s.l⟩ (by simp [Dat.g]), fun _ h => h, fun _ h => .inr h⟩)
theorem Ent.bytesOf {s : Bs} : Ent (SA.dat s :: L) (SA.rds 1 (.slice s.a s.l.length s.cap) s.l.length (s.l.map v8) :: SA.dat s :: L) := Ent.rdsOf
theorem Ent.rdss0 : Ent L (SA.rdss [] :: L) := fun w O R h => ⟨O, R, ⟨fun _ => False, fun _ => False, O, R, fun x hx => by simp at hx, h, by simp, fun k hk => ⟨hk, by simp⟩, by simp, fun k hk => hk⟩, fun _ h => h, fun _ h => .inr h⟩
/-- two that are read, as one -/
theorem Ent.rdssApp {gs hs : List G} : Ent (SA.rdss gs :: SA.rdss hs :: L) (SA.rdss (gs ++ hs) :: L) := fun w O R h => by
  have h' := SA.Le.assoc' _ _ _ h
  obtain ⟨O1, R1, O2, R2, hA, hL, r⟩ := h'
  obtain ⟨O3, R3, O4, R4, hB, hC, s1, s2, s3, s4⟩ := hA
  refine ⟨O, R, ⟨O1, R1, O2, R2, fun q hq => ?_, hL, r⟩, fun _ h => h, fun _ h => .inr h⟩
  rcases List.mem_append.1 hq with h | h
  · exact ⟨fun hn k hk => s3 k ((hB q h).1 hn k hk), (hB q h).2⟩
  · exact ⟨fun hn k hk => s4 k ((hC q h).1 hn k hk), (hC q h).2⟩
theorem Ent.rdsG {sz n : Nat} {cs : List Value} : Ent (SA.rds sz v n cs :: L) (SA.rdss [⟨sz, v, n, cs⟩] :: L) := Ent.imp fun w O R h => ⟨O, R, fun q hq => by simp at hq; subst hq; exact h, fun _ h => h, fun _ h => .inr h⟩
/-- a slice and what it holds, put together -/
theorem Ent.mkSl {a : Option Addr} {n cap sz : Nat} {l : List α} {cells : List Value} (hn : l.length = n) (hs : Dat.sz α = sz) (hc : Dat.cs l = cells) : Ent (SA.rds sz (.slice a n cap) n cells :: SA.rdss (l.flatMap Dat.g) :: L) (SA.dat (⟨a, cap, l⟩ : Sl α) :: L) := by
  subst hn; subst hs; subst hc
  exact Ent.rdsG.trans Ent.rdssApp
theorem Ent.mkBytes {a : Option Addr} {n cap : Nat} {l : List UInt8} (hn : l.length = n) : Ent (SA.rds 1 (.slice a n cap) n (l.map v8) :: L) (SA.dat (⟨a, cap, l⟩ : Bs) :: L) := by
  subst hn
  have : l.flatMap (Dat.g : UInt8 → List G) = [] := List.flatMap_eq_nil_iff.2 fun _ _ => rfl
  refine Ent.trans (Ent.rdsG) ?_
  rw [show SA.dat (⟨a, cap, l⟩ : Bs) = SA.rdss [⟨1, .slice a l.length cap, l.length, l.map v8⟩] by
    show SA.rdss (⟨1, _, _, _⟩ :: l.flatMap Dat.g) = _
    rw [this]; rfl]
  exact Ent.refl
theorem reads_some {sz n cap : Nat} {a : Option Addr} {cs : List Value} (hA : Reads A sz (.slice a n cap) n cs) (h : In A L) (hn : 0 < n) (hs : 0 < sz) : ∀ w, Holds L w → ∃ g off, a = some ⟨g, off, none⟩ := fun w hw => by
  obtain ⟨O, R, h1⟩ := hw _ h
  obtain ⟨b, c, he, h2, h3, h4, h5⟩ := (hA _ _ _ h1).val
  cases he
  cases a with
  | none => have := (h4 rfl).1; omega
  | some p =>
    have hl := (hA _ _ _ h1).len
    have hpos : 0 < cs.length := by rw [hl]; exact Nat.mul_pos hn hs
    have hc := h5 p rfl 0 cs[0] (by simp [hpos])
    obtain ⟨g, off, spot⟩ := p
    have : spot = none := by
      cases spot with
      | none => rfl
      | some q =>
        simp only [Addr.add, if_pos, World.cell?] at hc
        split at hc <;> simp at hc
    subst this
    exact ⟨g, off, rfl⟩
theorem getS {α : Type} {l : List α} {i : Nat} (h : i < l.length) : ∃ x, l[i]? = some x ∧ x ∈ l := ⟨l[i], by simp [h], List.getElem_mem h⟩
theorem Dat.cs_at {l : List α} {i k : Nat} {x : α} (hx : l[i]? = some x) (hk : k < Dat.sz α) : (Dat.cs l)[i * Dat.sz α + k]? = (Dat.c x)[k]? := by
  obtain ⟨hi, he⟩ := List.getElem?_eq_some_iff.1 hx
  rw [Dat.cs_get x hi hk, List.getD_eq_getElem?_getD, hx]; rfl
/-- a place of an element of a slice of structs -/
theorem Cel.at {g off n cap sz i k : Nat} {l : List α} {x : α} (hA : Reads A sz (.slice (some ⟨g, off, none⟩) n cap) n (Dat.cs l)) (h : In A As) (hx : l[i]? = some x) (hv : (Dat.c x)[k]? = some v) (hs : Dat.sz α = sz := by rfl) : Cel As ⟨g, off + (i * sz + k), none⟩ v := by
  subst hs
  have hk : k < Dat.sz α := by rw [← Dat.len x]; exact (List.getElem?_eq_some_iff.1 hv).1
  have := Cel.reads hA h ((Dat.cs_at hx hk).trans hv)
  rwa [Addr.add_lit] at this
theorem Cel.at0 {g off n cap sz i : Nat} {l : List α} {x : α} (hA : Reads A sz (.slice (some ⟨g, off, none⟩) n cap) n (Dat.cs l)) (h : In A As) (hx : l[i]? = some x) (hv : (Dat.c x)[0]? = some v) (hs : Dat.sz α = sz := by rfl) : Cel As ⟨g, off + i * sz, none⟩ v := by
  have := Cel.at (k := 0) hA h hx hv hs
  rwa [Nat.add_zero] at this
theorem Cels.at {g off n cap sz i : Nat} {l : List α} {x : α} (hA : Reads A sz (.slice (some ⟨g, off, none⟩) n cap) n (Dat.cs l)) (h : In A As) (hx : l[i]? = some x) (hs : Dat.sz α = sz := by rfl) : Cels As ⟨g, off + i * sz, none⟩ (Dat.c x) := fun w hw j u hj => by
  have := Cel.at (k := j) hA h hx hj hs w hw
  rw [Addr.add_lit, Nat.add_assoc]; exact this
theorem Reads.datM {a : Option Addr} {cap : Nat} {l : List α} : Reads (SA.dat (⟨a, cap, l⟩ : Sl α)) (Dat.sz α) (.slice a l.length cap) l.length (Dat.cs l) := Reads.dat (s := ⟨a, cap, l⟩)
theorem Cel.datAt {g off cap sz i k : Nat} {l : List α} {x : α} (h : In (SA.dat (⟨some ⟨g, off, none⟩, cap, l⟩ : Sl α)) As) (hx : l[i]? = some x) (hv : (Dat.c x)[k]? = some v) (hs : Dat.sz α = sz := by rfl) : Cel As ⟨g, off + (i * sz + k), none⟩ v := by
  subst hs; exact Cel.at Reads.datM h hx hv
theorem Cel.datAt0 {g off cap sz i : Nat} {l : List α} {x : α} (h : In (SA.dat (⟨some ⟨g, off, none⟩, cap, l⟩ : Sl α)) As) (hx : l[i]? = some x) (hv : (Dat.c x)[0]? = some v) (hs : Dat.sz α = sz := by rfl) : Cel As ⟨g, off + i * sz, none⟩ v := by
  subst hs; exact Cel.at0 Reads.datM h hx hv
theorem Cel.datAtS {g off cap i : Nat} {l : List α} {x : α} (h : In (SA.dat (⟨some ⟨g, off, none⟩, cap, l⟩ : Sl α)) As) (hx : l[i]? = some x) (hv : (Dat.c x)[0]? = some v) (hs : Dat.sz α = 1 := by rfl) : Cel As ⟨g, off + i, none⟩ v := by
  have := Cel.datAt0 h hx hv hs
  rwa [Nat.mul_one] at this
theorem Cels.datAt {g off cap sz i : Nat} {l : List α} {x : α} (h : In (SA.dat (⟨some ⟨g, off, none⟩, cap, l⟩ : Sl α)) As) (hx : l[i]? = some x) (hs : Dat.sz α = sz := by rfl) : Cels As ⟨g, off + i * sz, none⟩ (Dat.c x) := by
  subst hs; exact Cels.at Reads.datM h hx
theorem dat_some {cap : Nat} {a : Option Addr} {l : List α} (h : In (SA.dat (⟨a, cap, l⟩ : Sl α)) L) (hn : 0 < l.length) : ∀ w, Holds L w → ∃ g off, a = some ⟨g, off, none⟩ := reads_some Reads.datM h hn Dat.pos
theorem dat_cap {cap : Nat} {a : Option Addr} {l : List α} (h : In (SA.dat (⟨a, cap, l⟩ : Sl α)) L) : ∀ w, Holds L w → l.length ≤ cap ∧ cap ≤ 9223372036854775807 ∧ (a = none → l.length = 0) := fun w hw =>
  let ⟨h1, h2, _, h3⟩ := reads_cap Reads.datM h w hw; ⟨h1, by simpa only [maxLen] using h2, h3⟩
/-- a slice more that is read -/
theorem Ent.bsCons {a : Option Addr} {n cap : Nat} {l : List UInt8} {xs : List Bs} (hn : l.length = n) : Ent (SA.rds 1 (.slice a n cap) n (l.map v8) :: SA.rdss (xs.flatMap Dat.g) :: L) (SA.rdss (((⟨a, cap, l⟩ : Bs) :: xs).flatMap Dat.g) :: L) := by
  rw [List.flatMap_cons]
  exact (Ent.mkBytes hn).trans Ent.rdssApp
theorem Ent.bsPull {e n cap : Nat} {a : Option Addr} {l : List UInt8} {cs : List Value} {xs : List Bs} {L1 L2 : List SA} (h1 : Pull (SA.rdss (xs.flatMap Dat.g)) L L1) (h2 : Pull (SA.owns e 1 (.slice a n cap) n cs) L1 L2) (hn : l.length = n) (hc : l.map v8 = cs) : Ent L (SA.rdss (((⟨a, cap, l⟩ : Bs) :: xs).flatMap Dat.g) :: L2) := by
  subst hc
  exact h1.ent.trans ((h2.ent.under _).trans (Ent.swap.trans (Ent.freeze.trans (Ent.bsCons hn))))
theorem Ent.bsPullR {n cap : Nat} {a : Option Addr} {l : List UInt8} {cs : List Value} {xs : List Bs} {L1 L2 : List SA} (h1 : Pull (SA.rdss (xs.flatMap Dat.g)) L L1) (h2 : Pull (SA.rds 1 (.slice a n cap) n cs) L1 L2) (hn : l.length = n) (hc : l.map v8 = cs) : Ent L (SA.rdss (((⟨a, cap, l⟩ : Bs) :: xs).flatMap Dat.g) :: L2) := by
  subst hc
  exact h1.ent.trans ((h2.ent.under _).trans (Ent.swap.trans (Ent.bsCons hn)))
theorem Ent.bsNil : Ent L (SA.rdss (([] : List Bs).flatMap Dat.g) :: L) := Ent.rdss0
/-- a block that is not written any more, read as a slice -/
theorem Ent.rdOfBlk {b T sz n : Nat} {cs : Array Value} {c : List Value} {L1 : List SA} (h1 : Pull (SA.blk b cs T) L L1) (hR : Reads (SA.blk b cs T) sz v n c) (ho : own v = [b]) : Ent L (SA.rds sz v n c :: L1) :=
  h1.ent.trans (Ent.imp fun w O R h => ⟨fun _ => False, O, ⟨fun _ k hk => by rw [ho] at hk; simp at hk; subst hk; exact h.1, hR w O R h⟩, fun _ h => h.elim, fun _ h => .inl h⟩)
theorem Ent.mkJoin {e g n : Nat} {xs : List Bs} {cells : List Value} {L1 L2 : List SA} (h1 : Pull (SA.rdss (xs.flatMap Dat.g)) L L1) (h2 : Pull (SA.owns e 1 (.slice (some ⟨g, 0, none⟩) n n) n cells) L1 L2) (hn : xs.length = n) (hc : xs.map Sl.v = cells) : Ent L (SA.dat (⟨some ⟨g, 0, none⟩, n, xs⟩ : Sl Bs) :: L2) :=
  h1.ent.trans ((h2.ent.under _).trans (Ent.swap.trans (Ent.freeze.trans (Ent.mkSl hn rfl hc))))
/-- the address of a field, the base kept apart -/
theorem Y.fieldAddrJ {s f : Nat} {off b k j q : Nat} (ho : o.op = .fieldAddr s x f) (hf : Program.fieldOff P s f = some off) (hx : evO F x = some (.pointer (some ⟨b, k + j, none⟩))) (hq : j + off = q) : Yld P N o F As (.pointer (some ⟨b, k + q, none⟩)) :=
  Y.fieldAddr ho hf hx (by omega)
theorem Src.dat {s : Bs} {tx e' : Nat} (hk : P.underlying tx = some (.slice e')) (h : In (SA.dat s) As) : ∀ w, Holds As w → Src P 1 tx (.slice s.a s.l.length s.cap) s.l.length (s.l.map v8) w := Src.reads Reads.bytes hk h
/-- what there is, is named -/
theorem TC.open {γ : Type} {f : γ → SA} (hp : Pull (SA.ex f) L L0) (k : ∀ x, TC κ P N code F (f x :: L0) Q) : TC κ P N code F L Q := fun ds a w ha hd hw => by
  have h1 := ((Pull.there (B := SA.hid κ.X ds) hp).st hw)
  obtain ⟨x, h⟩ := h1.ex
  exact k x ds a w ha hd h.up1
/-- a truth is known -/
theorem TL.is {d : Nat} {b : Bool} {ops : Array Oper} {rest : List Oper} (c : Bool) (h : b = c) (k : TL κ P N ops rest ((d, some (.bool c)) :: F) L Q) : TL κ P N ops rest ((d, some (.bool b)) :: F) L Q := h ▸ k
theorem TA.is {d last fuel : Nat} {b : Bool} {ops : Array Oper} {listed : Array Bool} (c : Bool) (h : b = c) (k : TA κ P N ops last As fuel listed ((d, some (.bool c)) :: F) L Q) : TA κ P N ops last As fuel listed ((d, some (.bool b)) :: F) L Q := h ▸ k
/-- a value, said in other words -/
theorem TL.as {d : Nat} {v : Value} {ops : Array Oper} {rest : List Oper} (u : Value) (h : v = u) (k : TL κ P N ops rest ((d, some u) :: F) L Q) : TL κ P N ops rest ((d, some v) :: F) L Q := h ▸ k
theorem TA.as {d last fuel : Nat} {v : Value} {ops : Array Oper} {listed : Array Bool} (u : Value) (h : v = u) (k : TA κ P N ops last As fuel listed ((d, some u) :: F) L Q) : TA κ P N ops last As fuel listed ((d, some v) :: F) L Q := h ▸ k
theorem TA.to {last fuel : Nat} {ops : Array Oper} {listed : Array Bool} {L' : List SA} (h : Ent L L') (k : TA κ P N ops last As fuel listed F L' Q) : TA κ P N ops last As fuel listed F L Q := fun ds a w ha hd hw hS => k ds a w ha hd (h.hid hw) hS
theorem TA.know {last fuel : Nat} {ops : Array Oper} {listed : Array Bool} {φ : Prop} (h : ∀ w, Holds L w → φ) (k : φ → TA κ P N ops last As fuel listed F L Q) : TA κ P N ops last As fuel listed F L Q := fun ds a w ha hd hw hS => k (h w hw.tl.holds) ds a w ha hd hw hS
theorem TL.open {γ : Type} {f : γ → SA} {ops : Array Oper} {rest : List Oper} (hp : Pull (SA.ex f) L L0) (k : ∀ x, TL κ P N ops rest F (f x :: L0) Q) : TL κ P N ops rest F L Q := fun ds a w ha hd hw => by
  have h1 := ((Pull.there (B := SA.hid κ.X ds) hp).st hw)
  obtain ⟨x, h⟩ := h1.ex
  exact k x ds a w ha hd h.up1
theorem TL.split {B : SA} {ops : Array Oper} {rest : List Oper} (hp : Pull (SA.star A B) L L0) (k : TL κ P N ops rest F (A :: B :: L0) Q) : TL κ P N ops rest F L Q := fun ds a w ha hd hw =>
  k ds a w ha hd ((Ent.starE.under _).st ((hp.ent.under _).st hw))
theorem TC.split {B : SA} (hp : Pull (SA.star A B) L L0) (k : TC κ P N code F (A :: B :: L0) Q) : TC κ P N code F L Q := fun ds a w ha hd hw =>
  k ds a w ha hd ((Ent.starE.under _).st ((hp.ent.under _).st hw))
/-! ### arguments that are such data -/
/-- the slices can be read -/
def RdAll (W : World) (gs : List G) : Prop := ∀ q ∈ gs, 0 < q.sz ∧ Rd W q.sz q.v q.n q.cells
theorem RdAll.app {W : World} {gs hs : List G} (h : RdAll W gs) (k : RdAll W hs) : RdAll W (gs ++ hs) := fun q hq => (List.mem_append.1 hq).elim (h q) (k q)
/-- values of this type are such data, within bounds -/
def DatT (P : Program) (t : TypeId) (α : Type) [Dat α] (Bd : α → Prop) : Prop :=
  ∀ (H : Type) (enc : TypeId × Value → H) (W : World) (cs : List Value), Opn enc P W t cs → ∃ x : α, cs = Dat.c x ∧ RdAll W (Dat.g x) ∧ Bd x
/-- from a place on -/
def DatF (P : Program) (t off : Nat) (α : Type) [Dat α] (Bd : α → Prop) : Prop :=
  ∀ (H : Type) (enc : TypeId × Value → H) (W : World) (cs : List Value), Opn enc P W t cs → ∃ x : α, cs.drop off = Dat.c x ∧ RdAll W (Dat.g x) ∧ Bd x
theorem RdAll.st {W : World} {gs : List G} (h : RdAll W gs) : ∃ R, (SA.rdss gs).p W (fun _ => False) R ∧ ∀ k, R k → k < W.heap.size := by
  refine ⟨fun k => ∃ q ∈ gs, q.n ≠ 0 ∧ k ∈ own q.v, fun q hq => ⟨fun hn k hk => ⟨q, hq, hn, hk⟩, (h q hq).2⟩, ?_⟩
  rintro k ⟨q, hq, hn, hk⟩
  obtain ⟨R, h1, h2⟩ := (h q hq).2.arg (h q hq).1
  exact h2 k (h1.1 hn k hk)
theorem wf_u16 {n : Int} (h : (Lit.int .u16 n).wf = true) : n = ((UInt16.ofNat n.toNat).toNat : Int) := by
  have := bounds_u16 h
  rw [UInt16.toNat_ofNat_of_lt' (by show n.toNat < 65536; omega)]; omega
theorem wf_u32 {n : Int} (h : (Lit.int .u32 n).wf = true) : n = ((UInt32.ofNat n.toNat).toNat : Int) := by
  have := bounds_u32 h
  rw [UInt32.toNat_ofNat_of_lt' (by show n.toNat < 4294967296; omega)]; omega
theorem DatT.u8 {t : TypeId} (h : P.underlying t = some (.int .u8)) : DatT P t UInt8 (fun _ => True) := fun H enc W cs ho => by
  obtain ⟨n, rfl, hn⟩ := ho.int h
  exact ⟨b8 n, by show [Value.int .u8 n] = [Value.int .u8 _]; rw [← wf_u8 hn], fun q hq => (by cases hq), trivial⟩
theorem DatT.u16 {t : TypeId} (h : P.underlying t = some (.int .u16)) : DatT P t UInt16 (fun _ => True) := fun H enc W cs ho => by
  obtain ⟨n, rfl, hn⟩ := ho.int h
  exact ⟨UInt16.ofNat n.toNat, by show [Value.int .u16 n] = [Value.int .u16 _]; rw [← wf_u16 hn], fun q hq => (by cases hq), trivial⟩
theorem DatT.u32 {t : TypeId} (h : P.underlying t = some (.int .u32)) : DatT P t UInt32 (fun _ => True) := fun H enc W cs ho => by
  obtain ⟨n, rfl, hn⟩ := ho.int h
  exact ⟨UInt32.ofNat n.toNat, by show [Value.int .u32 n] = [Value.int .u32 _]; rw [← wf_u32 hn], fun q hq => (by cases hq), trivial⟩
/-- an int's bounds -/
def inI (n : Int) : Prop := -9223372036854775808 ≤ n ∧ n ≤ 9223372036854775807
theorem DatT.int {t : TypeId} (h : P.underlying t = some (.int .i64)) : DatT P t Int inI := fun H enc W cs ho => by
  obtain ⟨n, rfl, hn⟩ := ho.int h
  have := bounds_i64 hn
  exact ⟨n, rfl, fun q hq => (by cases hq), by unfold inI; omega⟩
theorem DatT.bool {t : TypeId} (h : P.underlying t = some .bool) : DatT P t Bool (fun _ => True) := fun H enc W cs ho => by
  obtain ⟨n, rfl⟩ := ho.bool h
  exact ⟨n, rfl, fun q hq => (by cases hq), trivial⟩
theorem DatT.string {t : TypeId} (h : P.underlying t = some .string) : DatT P t ByteArray (fun s => s.size ≤ reachBytes) := fun H enc W cs ho => by
  obtain ⟨n, rfl, hn⟩ := ho.string h
  exact ⟨n, rfl, fun q hq => (by cases hq), hn⟩
theorem DatT.slice {t e B : Nat} {Bd : α → Prop} (ht : P.underlying t = some (.slice e)) (hc : P.cellsOf e = Dat.sz α) (hB : P.bytesOf e = B) (he : DatT P e α Bd) : DatT P t (Sl α) (fun s => s.l.length * B ≤ reachBytes ∧ ∀ x ∈ s.l, Bd x) := fun H enc W cs ho => by
  rcases ho.slice ht with h1 | ⟨a, len, cap, h1, hl, hm, hr, hx⟩
  · refine ⟨⟨none, 0, []⟩, h1, ?_, by simp, by simp⟩
    intro q hq
    have hq : q = ⟨Dat.sz α, .slice none 0 0, 0, Dat.cs ([] : List α)⟩ := by simp [Dat.g] at hq; exact hq
    subst hq
    exact ⟨Dat.pos, by simp [Dat.cs_eq], by simp [Dat.cs_eq], none, 0, rfl, by simp, by simp, by simp, by simp [Dat.cs_eq]⟩
  · rw [hc, hB] at *
    obtain ⟨xs, g1, g2⟩ := choose_list (q := fun i (x : α) => (∀ j u, (Dat.c x)[j]? = some u → W.cell? (a.add (i * Dat.sz α + j)) = some u) ∧ RdAll W (Dat.g x) ∧ Bd x) (n := len) (fun i hi => by
      obtain ⟨es, e1, e2, e3⟩ := hx i hi
      obtain ⟨x, rfl, hg, hb⟩ := he H enc W es e3
      exact ⟨x, e2, hg, hb⟩)
    subst g1
    have g2' : ∀ x ∈ xs, RdAll W (Dat.g x) ∧ Bd x := fun x hx => by
      obtain ⟨i, hi, rfl⟩ := List.getElem_of_mem hx
      exact (g2 i _ (List.getElem?_eq_getElem hi)).2
    refine ⟨⟨some a, cap, xs⟩, h1, ?_, Nat.le_trans (Nat.mul_le_mul_right _ hl) hr, fun x hx => (g2' x hx).2⟩
    intro q hq
    have hq : q = ⟨Dat.sz α, .slice (some a) xs.length cap, xs.length, Dat.cs xs⟩ ∨ q ∈ xs.flatMap Dat.g := List.mem_cons.1 hq
    rcases hq with rfl | hq
    · refine ⟨Dat.pos, Dat.cs_len xs, ?_, some a, cap, rfl, hl, hm, by simp, ?_⟩
      · intro u hu
        rw [Dat.cs_eq] at hu
        obtain ⟨x, hx, hu⟩ := List.mem_flatMap.1 hu
        exact Dat.one x u hu
      · intro b hb j u hu
        cases hb
        have hj : j < xs.length * Dat.sz α := by rw [← Dat.cs_len]; exact (List.getElem?_eq_some_iff.1 hu).1
        have hi : j / Dat.sz α < xs.length := Nat.div_lt_of_lt_mul (by rw [Nat.mul_comm]; exact hj)
        have hmod := Nat.mod_lt j (Dat.pos (α := α))
        have ej : j / Dat.sz α * Dat.sz α + j % Dat.sz α = j := Nat.div_add_mod' j _
        have := (g2 _ _ (List.getElem?_eq_getElem hi)).1 (j % Dat.sz α) u (by rw [← Dat.cs_at (List.getElem?_eq_getElem hi) hmod, ej]; exact hu)
        rwa [ej] at this
    · obtain ⟨x, hx, hq⟩ := List.mem_flatMap.1 hq
      exact (g2' x hx).1 q hq
theorem DatF.cons {t t' off n i : Nat} {fs : Array Field} {B1 : α → Prop} {B2 : β → Prop} (ht : P.underlying t = some (.struct fs)) (hf : (fs[i]?).map (fun f => (f.type, f.offset)) = some (t', off)) (hc : P.cellsOf t' = n) (h1 : DatT P t' α B1) (h2 : DatF P t (off + n) β B2) : DatF P t off (α × β) (fun x => B1 x.1 ∧ B2 x.2) := fun H enc W cs ho => by
  obtain ⟨x, e1, g1, b1⟩ := h1 H enc W _ (ho.field ht i t' off hf hc)
  obtain ⟨y, e2, g2, b2⟩ := h2 H enc W cs ho
  refine ⟨(x, y), ?_, g1.app g2, b1, b2⟩
  show cs.drop off = Dat.c x ++ Dat.c y
  rw [← e1, ← e2, ← List.drop_drop, List.take_append_drop]
theorem DatF.last {t t' off n i : Nat} {fs : Array Field} {B1 : α → Prop} (ht : P.underlying t = some (.struct fs)) (hf : (fs[i]?).map (fun f => (f.type, f.offset)) = some (t', off)) (hc : P.cellsOf t' = n) (h1 : DatT P t' α B1) (hl : P.cellsOf t = off + n) : DatF P t off α B1 := fun H enc W cs ho => by
  obtain ⟨x, e1, g1, b1⟩ := h1 H enc W _ (ho.field ht i t' off hf hc)
  refine ⟨x, ?_, g1, b1⟩
  rw [← e1, List.take_of_length_le]
  have := (ho.struct ht).1
  rw [List.length_drop]; omega
theorem DatF.all {t : Nat} {B1 : α → Prop} (h : DatF P t 0 α B1) : DatT P t α B1 := fun H enc W cs ho => by
  obtain ⟨x, e, g⟩ := h H enc W cs ho
  exact ⟨x, by simpa using e, g⟩
end
end Go.Proofs.Ytomplpdeeomehaa
