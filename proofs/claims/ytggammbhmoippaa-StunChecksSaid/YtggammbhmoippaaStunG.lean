/- Signed messages, as plain data. -/
import Derived.Test.YtggammbhmoippaaStunBk
import Derived.Test.YtggammbhmoippaaShaRefMac
import Derived.Test.YtggammbhmoippaaShaCrc
namespace Go.Proofs.Ytggammbhmoippaa
set_option linter.unusedVariables false
set_option linter.unusedSimpArgs false
open Go.RowKit
namespace stun
open r1 (be2 be4 be2_len be4_len)
def hd (m : SMsg) (n : Nat) : List UInt8 := be2 (kindOf m.cls.toNat m.mth.toNat) ++ be2 n ++ magicB ++ m.id
theorem hd_len {m : SMsg} {n : Nat} (h : m.id.length = 12) : (hd m n).length = 20 := by simp [hd, be2, magicB, be4, h]
theorem hd_set {m : SMsg} {n x : Nat} {l : List UInt8} : setLen (hd m n ++ l) x = hd m (x - 20) ++ l := by simp [setLen, hd, be2]
theorem whole_hd (m : SMsg) : m.whole = hd m (enc m.attrs).length ++ enc m.attrs := by rw [SMsg.whole, body_enc0]; rfl
def SMsg.more (m : SMsg) (xs : List PA) : SMsg := ⟨m.cls, m.mth, m.id, m.attrs ++ xs⟩
def tagged (l : List PA) : Bool := l.any fun a => a.1 == 8 || a.1 == 32808
/-- up to the tag, its length counted in -/
def lead (b : List UInt8) : List UInt8 := setLen b (b.length + 24)
def midB (key b : List UInt8) : List UInt8 := setLen (lead b ++ be2 8 ++ be2 20 ++ sha.mac key (lead b)) (b.length + 24 + 8)
def crcX (b : List UInt8) : UInt32 := sha.crc b ^^^ 1398035790
def fin (key b : List UInt8) : List UInt8 := midB key b ++ be2 32808 ++ be2 4 ++ be4 (crcX (midB key b))
/-- what signing comes to -/
def SMsg.sgn (m : SMsg) (key : List UInt8) : Option (List UInt8) := if tagged m.attrs = true ∨ 14 < m.attrs.length then none else match m.build with
  | none => none
  | some b => if 1468 < b.length then none else some (fin key b)
theorem good_iff (m : SMsg) : m.good = true ↔ (∀ a ∈ m.attrs, a.2.length ≤ 512) ∧ 0 ≤ m.cls ∧ m.cls ≤ 3 ∧ 0 ≤ m.mth ∧ m.mth ≤ 4095 ∧ m.attrs.length ≤ 16 := by
  refine ⟨good_parts, fun ⟨h1, h2, h3, h4, h5, h6⟩ => ?_⟩
  simp only [SMsg.good, Bool.and_eq_true, decide_eq_true_eq, List.all_eq_true]
  exact ⟨⟨⟨⟨⟨h1, h2⟩, h3⟩, h4⟩, h5⟩, h6⟩
theorem more_good {m : SMsg} {xs : List PA} (hx : ∀ a ∈ xs, a.2.length ≤ 512) : (m.more xs).good = true ↔ m.good = true ∧ m.attrs.length + xs.length ≤ 16 := by
  rw [good_iff, good_iff]
  constructor
  · rintro ⟨h1, h2, h3, h4, h5, h6⟩
    rw [show (m.more xs).attrs = m.attrs ++ xs from rfl, List.length_append] at h6
    exact ⟨⟨fun a ha => h1 a (List.mem_append_left _ ha), h2, h3, h4, h5, by omega⟩, h6⟩
  · rintro ⟨⟨h1, h2, h3, h4, h5, -⟩, h6⟩
    refine ⟨fun a ha => ?_, h2, h3, h4, h5, by rw [show (m.more xs).attrs = m.attrs ++ xs from rfl, List.length_append]; exact h6⟩
    rcases List.mem_append.1 ha with h | h
    · exact h1 a h
    · exact hx a h
theorem more_whole (m : SMsg) (xs : List PA) : (m.more xs).whole = hd m ((enc m.attrs).length + (enc xs).length) ++ enc m.attrs ++ enc xs := by
  rw [whole_hd, show (m.more xs).attrs = m.attrs ++ xs from rfl, enc_app, List.length_append, ← List.append_assoc]; rfl
theorem more_build {m : SMsg} {xs : List PA} (hx : ∀ a ∈ xs, a.2.length ≤ 512) (hid : m.id.length = 12) : (m.more xs).build = if m.good = true ∧ m.attrs.length + xs.length ≤ 16 ∧ 20 + (enc m.attrs).length + (enc xs).length ≤ 1500 then some (hd m ((enc m.attrs).length + (enc xs).length) ++ enc m.attrs ++ enc xs) else none := by
  have hl : (m.more xs).whole.length = 20 + (enc m.attrs).length + (enc xs).length := by rw [more_whole]; simp [hd_len hid]; omega
  unfold SMsg.build
  simp only [more_good hx, hl, and_assoc]
  rw [more_whole]
theorem encA8 {t : List UInt8} (h : t.length = 20) : encA (8, t) = be2 8 ++ be2 20 ++ t := by
  rw [encA_eq]; simp only [h]; simp [padN]
theorem encA4 {t : List UInt8} (h : t.length = 4) : encA (32808, t) = be2 32808 ++ be2 4 ++ t := by
  rw [encA_eq]; simp only [h]; simp [padN]
theorem encA8_len {t : List UInt8} (h : t.length = 20) : (encA (8, t)).length = 24 := by rw [encA8 h]; simp [h, be2]
theorem encA4_len {t : List UInt8} (h : t.length = 4) : (encA (32808, t)).length = 8 := by rw [encA4 h]; simp [h, be2]
theorem enc1 (x : PA) : enc [x] = encA x := by simp [enc]
theorem enc2 (x y : PA) : enc [x, y] = encA x ++ encA y := by simp [enc]
/-- what the tag is of -/
def preT (m : SMsg) : List UInt8 := hd m ((enc m.attrs).length + 24) ++ enc m.attrs
def tagT (m : SMsg) (key : List UInt8) : List UInt8 := sha.mac key (preT m)
def preC (m : SMsg) (key : List UInt8) : List UInt8 := hd m ((enc m.attrs).length + 32) ++ enc m.attrs ++ encA (8, tagT m key)
def sumC (m : SMsg) (key : List UInt8) : List UInt8 := be4 (crcX (preC m key))
theorem tagT_len (m : SMsg) (key : List UInt8) : (tagT m key).length = 20 := sha.mac_len _ _
theorem two_le {x y : PA} (h1 : x.2.length ≤ 512) (h2 : y.2.length ≤ 512) : ∀ a ∈ [x, y], a.2.length ≤ 512 := by
  intro a ha
  rcases List.mem_cons.1 ha with rfl | ha
  · exact h1
  · rw [List.mem_singleton] at ha; subst ha; exact h2
theorem pair_build (m : SMsg) (t u : List UInt8) (ht : t.length = 20) (hu : u.length = 4) (hid : m.id.length = 12) : (m.more [(8, t), (32808, u)]).build = if m.good = true ∧ m.attrs.length ≤ 14 ∧ (enc m.attrs).length ≤ 1448 then some (hd m ((enc m.attrs).length + 32) ++ enc m.attrs ++ encA (8, t) ++ encA (32808, u)) else none := by
  rw [more_build (two_le (by simp [ht]) (by simp [hu])) hid, enc2, List.length_append, encA8_len ht, encA4_len hu, ← List.append_assoc]
  have e : (m.good = true ∧ m.attrs.length + [((8, t) : PA), (32808, u)].length ≤ 16 ∧ 20 + (enc m.attrs).length + (24 + 8) ≤ 1500) ↔ (m.good = true ∧ m.attrs.length ≤ 14 ∧ (enc m.attrs).length ≤ 1448) := by
    simp only [List.length_cons, List.length_nil]
    constructor
    · rintro ⟨h1, h2, h3⟩; exact ⟨h1, by omega, by omega⟩
    · rintro ⟨h1, h2, h3⟩; exact ⟨h1, by omega, by omega⟩
  simp only [e]
theorem one_build (m : SMsg) (t : List UInt8) (ht : t.length = 20) (hid : m.id.length = 12) : (m.more [(8, t)]).build = if m.good = true ∧ m.attrs.length ≤ 15 ∧ (enc m.attrs).length ≤ 1456 then some (preT m ++ encA (8, t)) else none := by
  rw [more_build (by simp [ht]) hid, enc1, encA8_len ht]
  have e : (m.good = true ∧ m.attrs.length + [((8, t) : PA)].length ≤ 16 ∧ 20 + (enc m.attrs).length + 24 ≤ 1500) ↔ (m.good = true ∧ m.attrs.length ≤ 15 ∧ (enc m.attrs).length ≤ 1456) := by
    simp only [List.length_cons, List.length_nil]
    constructor
    · rintro ⟨h1, h2, h3⟩; exact ⟨h1, by omega, by omega⟩
    · rintro ⟨h1, h2, h3⟩; exact ⟨h1, by omega, by omega⟩
  simp only [e]; rfl
theorem fin_eq (m : SMsg) (key : List UInt8) (hid : m.id.length = 12) : fin key m.whole = hd m ((enc m.attrs).length + 32) ++ enc m.attrs ++ encA (8, tagT m key) ++ encA (32808, sumC m key) := by
  have hl : m.whole.length = 20 + (enc m.attrs).length := by rw [whole_hd]; simp [hd_len hid]
  have h1 : lead m.whole = preT m := by
    rw [lead, hl, whole_hd, hd_set, preT, show 20 + (enc m.attrs).length + 24 - 20 = (enc m.attrs).length + 24 by omega]
  have h2 : midB key m.whole = preC m key := by
    rw [midB, h1, hl, preT]
    rw [show hd m ((enc m.attrs).length + 24) ++ enc m.attrs ++ be2 8 ++ be2 20 ++ sha.mac key (hd m ((enc m.attrs).length + 24) ++ enc m.attrs) = hd m ((enc m.attrs).length + 24) ++ (enc m.attrs ++ (be2 8 ++ be2 20 ++ sha.mac key (hd m ((enc m.attrs).length + 24) ++ enc m.attrs))) by simp only [List.append_assoc]]
    rw [hd_set, show 20 + (enc m.attrs).length + 24 + 8 - 20 = (enc m.attrs).length + 32 by omega, preC, encA8 (tagT_len m key)]
    simp only [List.append_assoc]; rfl
  rw [fin, h2, encA4 (by rw [sumC]; rfl), sumC, preC]
  simp only [List.append_assoc]
theorem sgn_eq (m : SMsg) (key : List UInt8) (hid : m.id.length = 12) (ht : tagged m.attrs = false) : m.sgn key = (m.more [(8, tagT m key), (32808, sumC m key)]).build := by
  rw [pair_build m _ _ (tagT_len m key) (by rw [sumC]; rfl) hid]
  have hl : m.whole.length = 20 + (enc m.attrs).length := by rw [whole_hd]; simp [hd_len hid]
  unfold SMsg.sgn
  rw [ht]
  by_cases h1 : m.good = true ∧ m.attrs.length ≤ 14 ∧ (enc m.attrs).length ≤ 1448
  · rw [if_pos h1, if_neg (by simp; omega), SMsg.build, if_pos ⟨h1.1, by omega⟩]
    simp only []
    rw [if_neg (by omega), fin_eq m key hid]
  · rw [if_neg h1]
    by_cases h2 : 14 < m.attrs.length
    · rw [if_pos (.inr h2)]
    · rw [if_neg (by simp; omega), SMsg.build]
      by_cases h3 : m.good = true ∧ m.whole.length ≤ 1500
      · rw [if_pos h3]
        simp only []
        rw [if_pos]
        have := h3.1
        simp only [not_and] at h1
        have := h1 this (by omega)
        omega
      · rw [if_neg h3]
theorem sgn_tagged {m : SMsg} {key : List UInt8} (ht : tagged m.attrs = true) : m.sgn key = none := by unfold SMsg.sgn; rw [if_pos (.inl ht)]
theorem sgn_sum {m : SMsg} {key s : List UInt8} (hid : m.id.length = 12) (h : m.sgn key = some s) : (m.more [(8, tagT m key), (32808, sumC m key)]).build = some s := by
  cases ht : tagged m.attrs with
  | true => rw [sgn_tagged ht] at h; cases h
  | false => rw [← sgn_eq m key hid ht]; exact h
/-! ### as the document does it -/
theorem ref_no1 {m : SMsg} {key z : List UInt8} (hz : z.length = 20) (hid : m.id.length = 12) (ht : tagged m.attrs = false) (h : (m.more [(8, z)]).build = none) : m.sgn key = none := by
  rw [one_build m z hz hid] at h
  rw [sgn_eq m key hid ht, pair_build m _ _ (tagT_len m key) (by rw [sumC]; rfl) hid]
  split at h
  · cases h
  · rename_i h1
    rw [if_neg (fun h2 => h1 ⟨h2.1, by omega, by omega⟩)]
theorem ref_tag {m : SMsg} {z b : List UInt8} (hz : z.length = 20) (hid : m.id.length = 12) (h : (m.more [(8, z)]).build = some b) : 24 ≤ b.length ∧ b.take (b.length - 24) = preT m := by
  rw [one_build m z hz hid] at h
  split at h
  · cases h
    rw [List.length_append, encA8_len hz, Nat.add_sub_cancel, List.take_left]
    exact ⟨by omega, rfl⟩
  · cases h
theorem ref_no2 {m : SMsg} {key z : List UInt8} (hz : z.length = 4) (hid : m.id.length = 12) (ht : tagged m.attrs = false) (h : (m.more [(8, tagT m key), (32808, z)]).build = none) : m.sgn key = none := by
  rw [pair_build m _ z (tagT_len m key) hz hid] at h
  rw [sgn_eq m key hid ht, pair_build m _ _ (tagT_len m key) (by rw [sumC]; rfl) hid]
  split at h
  · cases h
  · rename_i h1
    rw [if_neg h1]
theorem ref_sum {m : SMsg} {key z b : List UInt8} (hz : z.length = 4) (hid : m.id.length = 12) (ht : tagged m.attrs = false) (h : (m.more [(8, tagT m key), (32808, z)]).build = some b) :
    8 ≤ b.length ∧ b.length ≤ 1500 ∧ m.sgn key = some (b.take (b.length - 4) ++ be4 (crcX (b.take (b.length - 8)))) := by
  have h15 := ((build_iff _ b).1 h).2.1
  rw [pair_build m _ z (tagT_len m key) hz hid] at h
  rw [sgn_eq m key hid ht, pair_build m _ _ (tagT_len m key) (by rw [sumC]; rfl) hid]
  split at h
  · rename_i h1
    rw [if_pos h1]
    have hb := (Option.some.inj h).symm
    rw [show hd m ((enc m.attrs).length + 32) ++ enc m.attrs ++ encA (8, tagT m key) = preC m key from rfl] at hb ⊢
    have hl : b.length = (preC m key).length + 8 := by rw [hb, List.length_append, encA4_len hz]
    have e8 : b.take (b.length - 8) = preC m key := by rw [hl, Nat.add_sub_cancel, hb, List.take_left]
    have e4 : b.take (b.length - 4) = preC m key ++ (be2 32808 ++ be2 4) := by
      rw [hl, hb, encA4 hz, ← List.append_assoc, show (preC m key).length + 8 - 4 = (preC m key ++ (be2 32808 ++ be2 4)).length by simp [be2], List.take_left]
    refine ⟨by omega, h15, ?_⟩
    rw [e8, e4, encA4 (by rw [sumC]; rfl), sumC]
    simp only [List.append_assoc]
  · cases h
/-! ### judging -/
/-- what checking bytes comes to -/
def CR (b key : List UInt8) (c m : Int) (f : Nat → UInt8) (l : List PA) (e : Nat) : Prop := ∃ c0 m0 f0 l0 e0, PR b c0 m0 f0 l0 e0 ∧
  ((e0 = 0 ∧ 2 ≤ l0.length ∧ (⟨c0, m0, idL f0, l0.take (l0.length - 2)⟩ : SMsg).sgn key = some b ∧ c = c0 ∧ m = m0 ∧ idL f = idL f0 ∧ l = l0 ∧ e = 0) ∨
   (¬ (e0 = 0 ∧ 2 ≤ l0.length ∧ (⟨c0, m0, idL f0, l0.take (l0.length - 2)⟩ : SMsg).sgn key = some b) ∧ c = 0 ∧ m = 0 ∧ f = (fun _ => 0) ∧ l = [] ∧ e = if e0 = 0 then 4 else 2))
theorem CR.one {b key : List UInt8} {c m c' m' : Int} {f f' : Nat → UInt8} {l l' : List PA} {e e' : Nat} (h : CR b key c m f l e) (h' : CR b key c' m' f' l' e') : c = c' ∧ m = m' ∧ idL f = idL f' ∧ l = l' ∧ e = e' := by
  obtain ⟨c0, m0, f0, l0, e0, hp, h⟩ := h
  obtain ⟨c1, m1, f1, l1, e1, hp', h'⟩ := h'
  obtain ⟨rfl, rfl, hf, rfl, rfl⟩ := PR.one hp hp'
  rw [← hf] at h'
  rcases h with ⟨g1, g2, g3, g4⟩ | ⟨g, g4⟩ <;> rcases h' with ⟨g1', g2', g3', g4'⟩ | ⟨g', g4'⟩
  · obtain ⟨rfl, rfl, e1, rfl, rfl⟩ := g4
    obtain ⟨rfl, rfl, e2, rfl, rfl⟩ := g4'
    exact ⟨rfl, rfl, e1.trans e2.symm, rfl, rfl⟩
  · exact absurd ⟨g1, g2, g3⟩ g'
  · exact absurd ⟨g1', g2', g3'⟩ g
  · obtain ⟨rfl, rfl, rfl, rfl, rfl⟩ := g4
    obtain ⟨rfl, rfl, rfl, rfl, rfl⟩ := g4'
    exact ⟨rfl, rfl, rfl, rfl, rfl⟩
/-- what is signed is taken -/
theorem CR.signed {m : SMsg} {key s : List UInt8} {c n : Int} {f f0 : Nat → UInt8} {l : List PA} {e : Nat} (hid : m.id = idL f0) (h : m.sgn key = some s) (hc : CR s key c n f l e) : e = 0 ∧ l.length = m.attrs.length + 2 ∧ idL f = idL f0 ∧ n = m.mth ∧ c = m.cls := by
  have hb := sgn_sum (by rw [hid]; rfl) h
  have hp : PR s m.cls m.mth f0 (m.attrs ++ [(8, tagT m key), (32808, sumC m key)]) 0 := .inl ⟨rfl, by rw [← hid]; exact hb⟩
  have hm : (⟨m.cls, m.mth, idL f0, m.attrs⟩ : SMsg) = m := by rw [← hid]
  obtain ⟨rfl, rfl, hf, rfl, rfl⟩ := hc.one ⟨m.cls, m.mth, f0, _, 0, hp, .inl ⟨rfl, by simp, by
    rw [show (m.attrs ++ [((8 : UInt16), tagT m key), (32808, sumC m key)]).length - 2 = m.attrs.length by simp, List.take_left, hm]; exact h, rfl, rfl, rfl, rfl, rfl⟩⟩
  exact ⟨rfl, by simp, hf, rfl, rfl⟩
end stun
end Go.Proofs.Ytggammbhmoippaa
