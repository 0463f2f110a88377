/- STUN: a message's bytes have one message alone; reading them step by step. Plain lists. -/
import Derived.Test.YtggammbhmoippaaStunT
import Derived.Test.YtggammbhmoippaaHX
namespace Go.Proofs.Ytggammbhmoippaa
set_option linter.unusedVariables false
set_option linter.unusedSimpArgs false
open Go.RowKit
namespace stun
open wr (pad4 pad4_length pad4_mod pad4_head pad4_step pad4_done be16 be32)
open r1 (be2 be4 be2_len be4_len)
open rd (rdB rdL rdV num num1)
def encA (a : PA) : List UInt8 := pad4 (attrB a)
def enc (xs : List PA) : List UInt8 := xs.flatMap encA
theorem encA_mod (a : PA) : (encA a).length % 4 = 0 := pad4_mod _
theorem enc_mod (xs : List PA) : (enc xs).length % 4 = 0 := by
  induction xs with
  | nil => rfl
  | cons x r ih => rw [enc, List.flatMap_cons, List.length_append]; have := encA_mod x; rw [enc] at ih; omega
theorem body_enc (xs : List PA) : ∀ b : List UInt8, b.length % 4 = 0 → bodyFrom b xs = b ++ enc xs := by
  induction xs with
  | nil => intro b _; simp [bodyFrom, enc]
  | cons x r ih =>
    intro b hb
    show bodyFrom (pad4 (b ++ attrB x)) r = b ++ enc (x :: r)
    rw [ih _ (pad4_mod _), pad4_head _ _ hb, enc, enc, List.flatMap_cons, List.append_assoc]; rfl
theorem body_enc0 (xs : List PA) : bodyFrom [] xs = enc xs := body_enc xs [] rfl
/-- the bytes of an attribute, piece by piece -/
def padN (n : Nat) : Nat := (4 - n % 4) % 4
theorem encA_eq (a : PA) : encA a = be2 a.1.toNat ++ be2 a.2.length ++ a.2 ++ List.replicate (padN a.2.length) 0 := by
  unfold encA pad4
  rw [attrB_length, show (4 - (4 + a.2.length) % 4) % 4 = padN a.2.length by unfold padN; omega, attrB]
theorem encA_pos (a : PA) : 4 ≤ (encA a).length := by rw [encA_eq]; simp [be2]
theorem enc_cons (x : PA) (xs : List PA) : enc (x :: xs) = encA x ++ enc xs := by simp [enc]
theorem enc_app (xs ys : List PA) : enc (xs ++ ys) = enc xs ++ enc ys := by simp [enc]
theorem be2_inj {m n : Nat} (hm : m < 65536) (hn : n < 65536) (h : be2 m = be2 n) : m = n := by
  simp only [be2, List.cons.injEq, and_true] at h
  have h1 := congrArg UInt8.toNat h.1
  have h2 := congrArg UInt8.toNat h.2
  rw [UInt8.toNat_ofNat', UInt8.toNat_ofNat'] at h1 h2
  omega
def small (xs : List PA) : Prop := ∀ a ∈ xs, a.2.length < 65536
theorem app4 {α : Type} {a b a' b' : List α} (h : a ++ b = a' ++ b') (hl : a.length = a'.length) : a = a' ∧ b = b' := List.append_inj h hl
theorem encA_inj {x y : PA} {l m : List UInt8} (hx : x.2.length < 65536) (hy : y.2.length < 65536) (h : encA x ++ l = encA y ++ m) : x = y ∧ l = m := by
  rw [encA_eq, encA_eq] at h
  simp only [List.append_assoc] at h
  obtain ⟨h1, h⟩ := app4 h rfl
  obtain ⟨h2, h⟩ := app4 h rfl
  have e2 := be2_inj hx hy h2
  obtain ⟨h3, h⟩ := app4 h e2
  rw [e2] at h
  obtain ⟨-, h4⟩ := app4 h rfl
  have e1 := be2_inj x.1.toNat_lt y.1.toNat_lt h1
  exact ⟨Prod.ext (UInt16.toNat_inj.1 e1) h3, h4⟩
theorem enc_cancel : ∀ (ys xs : List PA) (l : List UInt8), small xs → small ys → enc xs = enc ys ++ l → ∃ zs, xs = ys ++ zs ∧ l = enc zs
  | [], xs, l, _, _, h => ⟨xs, rfl, by simpa [enc] using h.symm⟩
  | y :: ys, [], l, _, _, h => by
    have := congrArg List.length h
    have hp := encA_pos y
    simp [enc] at this
    omega
  | y :: ys, x :: xs, l, hx, hy, h => by
    rw [enc_cons, enc_cons, List.append_assoc] at h
    obtain ⟨he, h2⟩ := encA_inj (hx x (by simp)) (hy y (by simp)) h
    subst he
    obtain ⟨zs, rfl, e⟩ := enc_cancel ys xs l (fun a ha => hx a (by simp [ha])) (fun a ha => hy a (by simp [ha])) h2
    exact ⟨zs, rfl, e⟩
theorem enc_inj {xs ys : List PA} (hx : small xs) (hy : small ys) (h : enc xs = enc ys) : xs = ys := by
  obtain ⟨zs, e, h0⟩ := enc_cancel ys xs [] hx hy (by simpa using h)
  cases zs with
  | nil => simpa using e
  | cons z r =>
    have := congrArg List.length h0
    have hp := encA_pos z
    rw [enc_cons] at this
    simp at this
    omega
theorem build_iff (m : SMsg) (b : List UInt8) : m.build = some b ↔ m.good = true ∧ b.length ≤ 1500 ∧ b = be2 (kindOf m.cls.toNat m.mth.toNat) ++ be2 (enc m.attrs).length ++ magicB ++ m.id ++ enc m.attrs := by
  unfold SMsg.build
  have hw : m.whole = be2 (kindOf m.cls.toNat m.mth.toNat) ++ be2 (enc m.attrs).length ++ magicB ++ m.id ++ enc m.attrs := by rw [SMsg.whole, body_enc0]
  rw [← hw]
  constructor
  · intro h
    split at h
    · rename_i hc
      cases h
      exact ⟨hc.1, hc.2, rfl⟩
    · cases h
  · rintro ⟨h1, h2, rfl⟩
    rw [if_pos ⟨h1, h2⟩]
/-! ### the kind, taken apart -/
def clsR (k : Nat) : Nat := k / 16 &&& 1 ||| (k / 256 &&& 1) * 2
def mthR (k : Nat) : Nat := k &&& 15 ||| (k / 32 &&& 7) * 16 ||| (k / 512 &&& 31) * 128
def clsP (k : Nat) : Nat := k / 16 &&& 1 ||| k / 128 &&& 2
def mthP (k : Nat) : Nat := k &&& 15 ||| k / 2 &&& 112 ||| k / 4 &&& 3968
theorem kind_back : ∀ c : Fin 4, ∀ x : Fin 64, ∀ y : Fin 64, let k := kindOf c.val (x.val * 64 + y.val); clsR k = c.val ∧ mthR k = x.val * 64 + y.val ∧ clsP k = c.val ∧ mthP k = x.val * 64 + y.val ∧ k < 16384 := by decide +kernel
theorem kind_of (c m : Nat) (h1 : c ≤ 3) (h3 : m ≤ 4095) : clsR (kindOf c m) = c ∧ mthR (kindOf c m) = m ∧ clsP (kindOf c m) = c ∧ mthP (kindOf c m) = m ∧ kindOf c m < 16384 := by
  have := kind_back ⟨c, by omega⟩ ⟨m / 64, by omega⟩ ⟨m % 64, by omega⟩
  simp only at this
  rwa [show m / 64 * 64 + m % 64 = m by omega] at this
theorem kind_fwd : ∀ x : Fin 128, ∀ y : Fin 128, let k := x.val * 128 + y.val; clsP k ≤ 3 ∧ mthP k ≤ 4095 ∧ kindOf (clsP k) (mthP k) = k := by decide +kernel
theorem kind_to (k : Nat) (h : k < 16384) : clsP k ≤ 3 ∧ mthP k ≤ 4095 ∧ kindOf (clsP k) (mthP k) = k := by
  have := kind_fwd ⟨k / 128, by omega⟩ ⟨k % 128, by omega⟩
  simp only at this
  rwa [show k / 128 * 128 + k % 128 = k by omega] at this
/-! ### bytes as numbers -/
theorem or_add (x y : Nat) (h : y < 256) : x * 256 ||| y = x * 256 + y := by
  have := Nat.two_pow_add_eq_or_of_lt (i := 8) h x
  rw [Nat.mul_comm x 256, this]
theorem num2 (x y : UInt8) : (num [x, y]).toUInt16.toNat = x.toNat * 256 + y.toNat := by
  have hx := x.toNat_lt; have hy := y.toNat_lt
  have e : num [x, y] = UInt32.ofNat (x.toNat * 256 + y.toNat) := by
    apply UInt32.toNat_inj.1
    rw [UInt32.toNat_ofNat_of_lt' (by show _ < 4294967296; omega)]
    simp only [num, List.foldl_cons, List.foldl_nil, num1, shl32]
    simp
    rw [show x.toNat * 256 % 4294967296 = x.toNat * 256 by omega, or_add _ _ (by omega)]
  rw [e]
  simp
  omega
theorem be2_num2 (x y : UInt8) : be2 (x.toNat * 256 + y.toNat) = [x, y] := by
  have hx := x.toNat_lt; have hy := y.toNat_lt
  simp only [be2]
  rw [show (x.toNat * 256 + y.toNat) / 256 = x.toNat by omega]
  congr 1
  · simp
  · congr 1
    apply UInt8.toNat_inj.1
    rw [UInt8.toNat_ofNat']
    omega
/-! ### the reader's steps -/
theorem rdB_ok {k : Nat} {l : List UInt8} (h : k ≤ l.length) : rdB k l false = false := by simp [rdB]; omega
theorem rdL_ok {k : Nat} {l : List UInt8} (h : k ≤ l.length) : rdL k l false = l.drop k := by simp [rdL, rdB_ok h]
theorem rdV_ok {k : Nat} {l : List UInt8} (h : k ≤ l.length) : rdV k l false = l.take k := by simp [rdV, rdB_ok h]
theorem rdB_no {k : Nat} {l : List UInt8} (h : l.length < k) : rdB k l false = true := by simp [rdB]; omega
theorem rdB_t {k : Nat} {l : List UInt8} : rdB k l true = true := rfl
theorem rdB_eq {k : Nat} {l : List UInt8} {b : Bool} (h : rdB k l b = false) : b = false ∧ k ≤ l.length := by simpa [rdB] using h
theorem rd_app {k : Nat} {l : List UInt8} {b : Bool} (h : rdB k l b = false) : l = rdV k l b ++ rdL k l b ∧ (rdV k l b).length = k := by
  obtain ⟨rfl, hk⟩ := rdB_eq h
  rw [rdV_ok hk, rdL_ok hk, List.take_append_drop, List.length_take]
  exact ⟨rfl, by omega⟩
/-- one attribute read: type, length, value, padding; what is left; whether it went well -/
structure AtR where
  t : UInt16
  k : Nat
  v : List UInt8
  w : List UInt8
  l : List UInt8
  bad : Bool
def atRead (l : List UInt8) : AtR :=
  let t := (num (rdV 2 l false)).toUInt16
  let l1 := rdL 2 l false
  let b1 := rdB 2 l false
  let k := (num (rdV 2 l1 b1)).toUInt16.toNat
  let l2 := rdL 2 l1 b1
  let b2 := rdB 2 l1 b1
  let l3 := rdL k l2 b2
  let b3 := rdB k l2 b2
  ⟨t, k, rdV k l2 b2, rdV (padN k) l3 b3, rdL (padN k) l3 b3, rdB (padN k) l3 b3⟩
theorem two_take {l : List UInt8} (h : l.length = 2) : ∃ x y, l = [x, y] := by
  match l, h with
  | [x, y], _ => exact ⟨x, y, rfl⟩
theorem be2_num {l : List UInt8} (h : l.length = 2) : be2 (num l).toUInt16.toNat = l := by
  obtain ⟨x, y, rfl⟩ := two_take h
  rw [num2, be2_num2]
theorem atRead_ok (l : List UInt8) (h : (atRead l).bad = false) : l = be2 (atRead l).t.toNat ++ be2 (atRead l).k ++ (atRead l).v ++ (atRead l).w ++ (atRead l).l ∧ (atRead l).v.length = (atRead l).k ∧ (atRead l).w.length = padN (atRead l).k ∧ (atRead l).k < 65536 := by
  unfold atRead at h ⊢
  simp only at h ⊢
  obtain ⟨e4, n4⟩ := rd_app h
  have h3 := (rdB_eq h).1
  obtain ⟨e3, n3⟩ := rd_app h3
  have h2 := (rdB_eq h3).1
  obtain ⟨e2, n2⟩ := rd_app h2
  have h1 := (rdB_eq h2).1
  obtain ⟨e1, n1⟩ := rd_app h1
  refine ⟨?_, n3, n4, UInt16.toNat_lt _⟩
  rw [be2_num n1, be2_num n2]
  rw [List.append_assoc, List.append_assoc, List.append_assoc, ← e4, ← e3, ← e2, ← e1]
theorem atRead_enc (x : PA) (xs : List PA) (hx : x.2.length < 65536) : atRead (enc (x :: xs)) = ⟨x.1, x.2.length, x.2, List.replicate (padN x.2.length) 0, enc xs, false⟩ := by
  obtain ⟨t, v⟩ := x
  have ht := t.toNat_lt
  have num_be : ∀ n, n < 65536 → (num (be2 n)).toUInt16.toNat = n := fun n hn => be2_inj (UInt16.toNat_lt _) hn (be2_num (be2_len n))
  have e : enc ((t, v) :: xs) = be2 t.toNat ++ (be2 v.length ++ (v ++ (List.replicate (padN v.length) 0 ++ enc xs))) := by rw [enc_cons, encA_eq]; simp only [List.append_assoc]
  have take_l : ∀ (a b : List UInt8) (n : Nat), a.length = n → rdV n (a ++ b) false = a ∧ rdL n (a ++ b) false = b ∧ rdB n (a ++ b) false = false := fun a b n hn => by
    have : n ≤ (a ++ b).length := by simp; omega
    subst hn
    exact ⟨by rw [rdV_ok this]; simp, by rw [rdL_ok this]; simp, rdB_ok this⟩
  unfold atRead
  rw [e]
  obtain ⟨a1, a2, a3⟩ := take_l (be2 t.toNat) (be2 v.length ++ (v ++ (List.replicate (padN v.length) 0 ++ enc xs))) 2 rfl
  simp only [a1, a2, a3]
  obtain ⟨a1, a2, a3⟩ := take_l (be2 v.length) (v ++ (List.replicate (padN v.length) 0 ++ enc xs)) 2 rfl
  simp only [a1, a2, a3, num_be _ hx]
  obtain ⟨a1, a2, a3⟩ := take_l v (List.replicate (padN v.length) 0 ++ enc xs) v.length rfl
  simp only [a1, a2, a3]
  obtain ⟨a1, a2, a3⟩ := take_l (List.replicate (padN v.length) 0) (enc xs) (padN v.length) (by simp)
  simp only [a1, a2, a3]
  have : (num (be2 t.toNat)).toUInt16 = t := UInt16.toNat_inj.1 (num_be _ ht)
  rw [this]
/-- the step of the reading loop: what is left can be written, or not -/
theorem atRead_step (l : List UInt8) (h : (atRead l).bad = false) (hz : ∀ x ∈ (atRead l).w, x = 0) : l = encA ((atRead l).t, (atRead l).v) ++ (atRead l).l := by
  obtain ⟨e, n1, n2, n3⟩ := atRead_ok l h
  have hw : (atRead l).w = List.replicate (padN (atRead l).k) 0 := List.eq_replicate_iff.2 ⟨n2, hz⟩
  rw [hw, ← n1] at e
  rw [encA_eq]
  exact e
theorem atRead_no (l : List UInt8) (hl : l ≠ []) (h : (atRead l).bad = true ∨ ∃ x ∈ (atRead l).w, x ≠ 0) : ∀ xs, small xs → l ≠ enc xs := by
  rintro xs hs rfl
  cases xs with
  | nil => exact hl rfl
  | cons x xs =>
    rw [atRead_enc x xs (hs x (by simp))] at h
    rcases h with h | ⟨y, hy, h0⟩
    · cases h
    · exact h0 (List.eq_of_mem_replicate hy)
end stun
end Go.Proofs.Ytggammbhmoippaa
