/- STUN messages as plain data: their bytes, in two ways, and that the two are one; their cells. -/
import Derived.Test.YtggammbhmoippaaWireW
import Derived.Test.YtggammbhmoippaaWireR
import Derived.Test.YtggammbhmoippaaRef01
namespace Go.Proofs.Ytggammbhmoippaa
set_option linter.unusedVariables false
set_option linter.unusedSimpArgs false
open Go.RowKit
namespace stun
open wr (pad4 pad4_length pad4_mod pad4_head pad4_step pad4_done be16 be32)
open r1 (be2 be4 be2_len be4_len)
abbrev At := UInt16 × Bs
/-- what an attribute says -/
abbrev PA := UInt16 × List UInt8
def pl (x : At) : PA := (x.1, x.2.l)
def idL (f : Nat → UInt8) : List UInt8 := [f 0, f 1, f 2, f 3, f 4, f 5, f 6, f 7, f 8, f 9, f 10, f 11]
@[simp] theorem idL_length (f : Nat → UInt8) : (idL f).length = 12 := rfl
def msgC (c m : Int) (f : Nat → UInt8) (s : Value) : Array Value := #[vI c, vI m, v8 (f 0), v8 (f 1), v8 (f 2), v8 (f 3), v8 (f 4), v8 (f 5), v8 (f 6), v8 (f 7), v8 (f 8), v8 (f 9), v8 (f 10), v8 (f 11), s]
structure SMsg where
  cls : Int
  mth : Int
  id : List UInt8
  attrs : List PA

theorem be16_two (x : UInt16) : be16 x = be2 x.toNat := by
  have h := x.toNat_lt
  unfold be16 be2
  congr 1
  apply UInt8.toNat_inj.1
  simp [shr16]
theorem be16_ofNat (n : Nat) (h : n < 65536) : be16 (UInt16.ofNat n) = be2 n := by
  rw [be16_two, UInt16.toNat_ofNat_of_lt' (by simpa using h)]
def attrB (a : PA) : List UInt8 := be2 a.1.toNat ++ be2 a.2.length ++ a.2
def bodyFrom (b : List UInt8) (xs : List PA) : List UInt8 := xs.foldl (fun b a => pad4 (b ++ attrB a)) b
def magicB : List UInt8 := be4 554869826
def kindOf (c n : Nat) : Nat := n % 16 + c % 2 * 16 + n / 16 % 8 * 32 + c / 2 * 256 + n / 128 * 512
theorem kindOf_lt (c n : Nat) (h1 : c ≤ 3) (h3 : n ≤ 4095) : kindOf c n < 65536 := by unfold kindOf; omega
def kindBits (c n : Nat) : Nat := n &&& 15 ||| (c &&& 1) * 16 ||| (n &&& 112) * 2 ||| (c &&& 2) * 128 ||| (n &&& 3968) * 4
theorem kindBits_fin : ∀ c : Fin 4, ∀ x : Fin 64, ∀ y : Fin 64, kindBits c.val (x.val * 64 + y.val) = kindOf c.val (x.val * 64 + y.val) := by decide +kernel
theorem kindBits_eq (c m : Nat) (h1 : c ≤ 3) (h3 : m ≤ 4095) : kindBits c m = kindOf c m := by
  have := kindBits_fin ⟨c, by omega⟩ ⟨m / 64, by omega⟩ ⟨m % 64, by omega⟩
  simp only at this
  rwa [show m / 64 * 64 + m % 64 = m by omega] at this
def SMsg.good (m : SMsg) : Bool := m.attrs.all (fun a => decide (a.2.length ≤ 512)) && decide (0 ≤ m.cls) && decide (m.cls ≤ 3) && decide (0 ≤ m.mth) && decide (m.mth ≤ 4095) && decide (m.attrs.length ≤ 16)
def SMsg.whole (m : SMsg) : List UInt8 := be2 (kindOf m.cls.toNat m.mth.toNat) ++ be2 (bodyFrom [] m.attrs).length ++ magicB ++ m.id ++ bodyFrom [] m.attrs
/-- the bytes, or none -/
def SMsg.build (m : SMsg) : Option (List UInt8) := if m.good ∧ m.whole.length ≤ 1500 then some m.whole else none
def ob (o : Option (List UInt8)) : List UInt8 := o.getD []
def oe (o : Option (List UInt8)) : Nat := if o.isSome then 0 else 1

@[simp] theorem attrB_length (a : PA) : (attrB a).length = 4 + a.2.length := by simp [attrB, be2]; omega
theorem bodyFrom_head (h : List UInt8) (hh : h.length % 4 = 0) (xs : List PA) : ∀ b : List UInt8, bodyFrom (h ++ b) xs = h ++ bodyFrom b xs := by
  induction xs with
  | nil => intro b; rfl
  | cons a xs ih =>
    intro b
    show bodyFrom (pad4 (h ++ b ++ attrB a)) xs = h ++ bodyFrom (pad4 (b ++ attrB a)) xs
    rw [List.append_assoc, pad4_head _ _ hh, ih]
theorem bodyFrom_snoc (b : List UInt8) (xs : List PA) (a : PA) : bodyFrom b (xs ++ [a]) = pad4 (bodyFrom b xs ++ attrB a) := by simp [bodyFrom]
theorem bodyFrom_le (xs : List PA) : ∀ b : List UInt8, (∀ a ∈ xs, a.2.length ≤ 512) → (bodyFrom b xs).length ≤ b.length + 520 * xs.length := by
  induction xs with
  | nil => intro b _; simp [bodyFrom]
  | cons a xs ih =>
    intro b h
    show (bodyFrom (pad4 (b ++ attrB a)) xs).length ≤ _
    have h1 := ih (pad4 (b ++ attrB a)) (fun x hx => h x (List.mem_cons_of_mem _ hx))
    have h2 := pad4_length (b ++ attrB a)
    have h3 := h a (by simp)
    simp only [List.length_append, attrB_length, List.length_cons] at *
    omega
/-- the bytes as they are before the length is written -/
def SMsg.draft (m : SMsg) : List UInt8 := bodyFrom (be2 (kindOf m.cls.toNat m.mth.toNat) ++ be2 0 ++ magicB ++ m.id) m.attrs
theorem draft_eq (m : SMsg) (h : m.id.length = 12) : m.draft = be2 (kindOf m.cls.toNat m.mth.toNat) ++ be2 0 ++ magicB ++ m.id ++ bodyFrom [] m.attrs := by
  have := bodyFrom_head (be2 (kindOf m.cls.toNat m.mth.toNat) ++ be2 0 ++ magicB ++ m.id) (by simp [magicB, h, be2, be4]) m.attrs []
  simpa [SMsg.draft] using this
theorem draft_length (m : SMsg) (h : m.id.length = 12) : m.draft.length = m.whole.length := by rw [draft_eq m h]; simp [SMsg.whole, be2]
theorem draft_len20 (m : SMsg) (h : m.id.length = 12) : m.draft.length = 20 + (bodyFrom [] m.attrs).length := by rw [draft_eq m h]; simp [be2, be4, magicB, h]; omega
/-- the length, written into the third and fourth place -/
def setLen (l : List UInt8) (n : Nat) : List UInt8 := (l.set 2 (UInt8.ofNat ((n - 20) / 256))).set 3 (UInt8.ofNat (n - 20))
theorem setLen_len (l : List UInt8) (n : Nat) : (setLen l n).length = l.length := by simp [setLen]
theorem draft_set (m : SMsg) (h : m.id.length = 12) : setLen m.draft m.draft.length = m.whole := by
  have e : m.draft.length - 20 = (bodyFrom [] m.attrs).length := by
    rw [draft_len20 m h]; omega
  rw [setLen, e, draft_eq m h]
  simp [SMsg.whole, be2]
/-! ### in memory -/
def SM (c m : Int) (f : Nat → UInt8) (s : Sl At) : SMsg := ⟨c, m, idL f, s.l.map pl⟩
theorem msg_id (c m : Int) (f : Nat → UInt8) (s : Value) : ∀ j u, ((idL f).map v8)[j]? = some u → (msgC c m f s)[2 + j]? = some u := by
  intro j u hu
  have hj : j < 12 := by have := (List.getElem?_eq_some_iff.1 hu).1; simpa using this
  rw [← hu]
  rcases show j = 0 ∨ j = 1 ∨ j = 2 ∨ j = 3 ∨ j = 4 ∨ j = 5 ∨ j = 6 ∨ j = 7 ∨ j = 8 ∨ j = 9 ∨ j = 10 ∨ j = 11 by omega with rfl | rfl | rfl | rfl | rfl | rfl | rfl | rfl | rfl | rfl | rfl | rfl <;> rfl
theorem readsId {b T : Nat} {c m : Int} {f : Nat → UInt8} {s : Value} : Reads (SA.blk b (msgC c m f s) T) 1 (.slice (some ⟨b, 2, none⟩) 12 12) 12 ((idL f).map v8) := fun w O R h => by
  refine ⟨rfl, one8, some ⟨b, 2, none⟩, 12, rfl, Nat.le_refl _, by decide, by simp, ?_⟩
  intro p hp j u hu
  cases hp
  have hj : j < 12 := by have := (List.getElem?_eq_some_iff.1 hu).1; simpa using this
  rw [Addr.add_lit, h.2.cell]
  rw [← hu]
  rcases show j = 0 ∨ j = 1 ∨ j = 2 ∨ j = 3 ∨ j = 4 ∨ j = 5 ∨ j = 6 ∨ j = 7 ∨ j = 8 ∨ j = 9 ∨ j = 10 ∨ j = 11 by omega with rfl | rfl | rfl | rfl | rfl | rfl | rfl | rfl | rfl | rfl | rfl | rfl <;> rfl
end stun
end Go.Proofs.Ytggammbhmoippaa
