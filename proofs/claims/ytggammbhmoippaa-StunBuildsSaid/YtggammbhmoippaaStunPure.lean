/- STUN messages as plain data: their bytes, in two ways, and that the two are one. No program is named. -/
import Derived.Test.YtggammbhmoippaaBytes
namespace Go.Proofs.Ytggammbhmoippaa
set_option linter.unusedVariables false
open Go.RowKit

structure SMsg where
  cls : Int
  mth : Int
  id : List UInt8
  attrs : List (Int × List UInt8)

def pad4 (l : List UInt8) : List UInt8 := l ++ List.replicate ((4 - l.length % 4) % 4) 0
def attrB (a : Int × List UInt8) : List UInt8 := two a.1 ++ two a.2.length ++ a.2
def bodyFrom (b : List UInt8) (as : List (Int × List UInt8)) : List UInt8 := as.foldl (fun b a => pad4 (b ++ attrB a)) b
def magicB : List UInt8 := four 554869826
def kindOf (c n : Int) : Int := n % 16 + c % 2 * 16 + n / 16 % 8 * 32 + c / 2 * 256 + n / 128 * 512
def SMsg.good (m : SMsg) : Bool := decide (0 ≤ m.cls) && decide (m.cls ≤ 3) && decide (0 ≤ m.mth) && decide (m.mth ≤ 4095) && decide (m.attrs.length ≤ 16) && m.attrs.all (fun a => decide (a.2.length ≤ 512))
def SMsg.whole (m : SMsg) : List UInt8 := two (kindOf m.cls m.mth) ++ two (bodyFrom [] m.attrs).length ++ magicB ++ m.id ++ bodyFrom [] m.attrs
/-- the bytes, or none -/
def SMsg.build (m : SMsg) : Option (List UInt8) := if m.good ∧ m.whole.length ≤ 1500 then some m.whole else none

@[simp] theorem attrB_length (a : Int × List UInt8) : (attrB a).length = 4 + a.2.length := by simp [attrB]; omega
theorem pad4_length (l : List UInt8) : (pad4 l).length = l.length + (4 - l.length % 4) % 4 := by simp [pad4]
theorem pad4_mod (l : List UInt8) : (pad4 l).length % 4 = 0 := by rw [pad4_length]; omega
theorem pad4_head (h l : List UInt8) (hh : h.length % 4 = 0) : pad4 (h ++ l) = h ++ pad4 l := by
  have : (4 - (h ++ l).length % 4) % 4 = (4 - l.length % 4) % 4 := by simp; omega
  simp only [pad4, this, List.append_assoc]
theorem pad4_step (l : List UInt8) (h : l.length % 4 ≠ 0) : pad4 (l ++ [0]) = pad4 l := by
  have e : (4 - l.length % 4) % 4 = (4 - (l ++ [0]).length % 4) % 4 + 1 := by simp; omega
  simp only [pad4, e, List.replicate_succ]
  simp
theorem pad4_done (l : List UInt8) (h : l.length % 4 = 0) : pad4 l = l := by simp [pad4, h]
theorem bodyFrom_head (h : List UInt8) (hh : h.length % 4 = 0) (as : List (Int × List UInt8)) : ∀ b : List UInt8, bodyFrom (h ++ b) as = h ++ bodyFrom b as := by
  induction as with
  | nil => intro b; rfl
  | cons a as ih =>
    intro b
    show bodyFrom (pad4 (h ++ b ++ attrB a)) as = h ++ bodyFrom (pad4 (b ++ attrB a)) as
    rw [List.append_assoc, pad4_head _ _ hh, ih]
theorem bodyFrom_snoc (b : List UInt8) (as : List (Int × List UInt8)) (a : Int × List UInt8) : bodyFrom b (as ++ [a]) = pad4 (bodyFrom b as ++ attrB a) := by simp [bodyFrom]
theorem bodyFrom_le (as : List (Int × List UInt8)) : ∀ b : List UInt8, (∀ a ∈ as, a.2.length ≤ 512) → (bodyFrom b as).length ≤ b.length + 520 * as.length := by
  induction as with
  | nil => intro b _; simp [bodyFrom]
  | cons a as ih =>
    intro b h
    show (bodyFrom (pad4 (b ++ attrB a)) as).length ≤ _
    have h1 := ih (pad4 (b ++ attrB a)) (fun x hx => h x (List.mem_cons_of_mem _ hx))
    have h2 := pad4_length (b ++ attrB a)
    have h3 := h a (by simp)
    simp only [List.length_append, attrB_length, List.length_cons] at *
    omega
/-- the bytes as they are before the length is written -/
def SMsg.draft (m : SMsg) : List UInt8 := bodyFrom (two (kindOf m.cls m.mth) ++ two 0 ++ magicB ++ m.id) m.attrs
theorem draft_eq (m : SMsg) (h : m.id.length = 12) : m.draft = two (kindOf m.cls m.mth) ++ two 0 ++ magicB ++ m.id ++ bodyFrom [] m.attrs := by
  have := bodyFrom_head (two (kindOf m.cls m.mth) ++ two 0 ++ magicB ++ m.id) (by simp [magicB, h]) m.attrs []
  simpa [SMsg.draft] using this
theorem draft_length (m : SMsg) (h : m.id.length = 12) : m.draft.length = m.whole.length := by rw [draft_eq m h]; simp [SMsg.whole]
theorem draft_set (m : SMsg) (h : m.id.length = 12) : (m.draft.set 2 (b8 (((m.draft.length : Int) - 20) / 256))).set 3 (b8 ((m.draft.length : Int) - 20)) = m.whole := by
  have e : (m.draft.length : Int) - 20 = ((bodyFrom [] m.attrs).length : Int) := by
    rw [draft_eq m h]; simp [magicB, h]; omega
  rw [e, draft_eq m h]
  simp [SMsg.whole, two]
end Go.Proofs.Ytggammbhmoippaa
