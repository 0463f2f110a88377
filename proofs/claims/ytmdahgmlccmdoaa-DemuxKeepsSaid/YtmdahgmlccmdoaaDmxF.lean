/- demux: just so many sources are latched. -/
import Derived.Test.YtmdahgmlccmdoaaDmxU
namespace Go.Proofs.Ytmdahgmlccmdoaa
set_option linter.unusedVariables false
set_option linter.unusedSimpArgs false
open Go.RowKit
namespace dm
--FACTS
def kt (kn : List UInt16) : LTB := kn.map fun s => (s.toUInt32, (0, ByteArray.empty))
theorem u32_inj {a b : UInt16} (h : a.toUInt32 = b.toUInt32) : a = b := by
  have := congrArg UInt32.toNat h
  simp at this
  exact UInt16.toNat_inj.1 this
theorem kt_len (kn : List UInt16) : (kt kn).length = kn.length := by simp [kt]
theorem kt_ok {ls : List LnD} (h : 0 < ls.length) (kn : List UInt16) : OkL ls (kt kn) := fun e he => by
  simp only [kt, List.mem_map] at he
  obtain ⟨s, -, rfl⟩ := he
  exact ⟨Int.le_refl _, by simp; omega⟩
theorem kt_in {kn : List UInt16} {s : UInt16} (h : s ∈ kn) : ∃ k, Fi (kt kn) s.toUInt32 = some k ∧ (kt kn)[k]? = some (s.toUInt32, (0, .empty)) ∧ tget (Dat.dflt : Int × ByteArray) (kt kn) s.toUInt32 = ((0, .empty), true) := by
  cases hf : Fi (kt kn) s.toUInt32 with
  | some k =>
    obtain ⟨hk, y, hy, hg⟩ := Fi_some hf
    have hm := List.mem_of_getElem? hy
    simp only [kt, List.mem_map] at hm
    obtain ⟨t, -, ht⟩ := hm
    have hy2 : y = (0, .empty) := by rw [← (Prod.mk.inj ht).2]
    subst hy2
    exact ⟨k, rfl, hy, hg _⟩
  | none =>
    have := List.findIdx?_eq_none_iff.1 hf (s.toUInt32, (0, .empty)) (by simp only [kt, List.mem_map]; exact ⟨s, h, rfl⟩)
    simp at this
theorem kt_no {kn : List UInt16} {s : UInt16} (h : s ∉ kn) : Fi (kt kn) s.toUInt32 = none := Fi_no fun y hy e => by
  simp only [kt, List.mem_map] at hy
  obtain ⟨t, ht, rfl⟩ := hy
  exact h (by rw [← u32_inj e]; exact ht)
/-- one line, of one type -/
abbrev L1 (t : Int) : LnD := (.empty, ⟨none, 0, [t]⟩, ⟨none, 0, []⟩, ⟨none, 0, []⟩)
theorem lnT1 (t : Int) : lnT [L1 t] t = 0 := by
  have hi : ixd.idx (pT t) [L1 t] = 0 := by simp [ixd.idx, pT, List.findIdx?_cons]
  unfold lnT; rw [hi, if_neg (by simp)]
theorem lnS1 {t : Int} {l : LTB} {src : UInt32} (h : (tget (Dat.dflt : Int × ByteArray) l src).2 = true → (tget (Dat.dflt : Int × ByteArray) l src).1.1 = 0) : lnS [L1 t] 0 l t src [] = 0 := by
  unfold lnS
  rw [if_neg (by simp [fx])]
  split
  · exact h ‹_›
  · have hi : ixd.idx (pS src) [L1 t] = -1 := by simp [ixd.idx, pS, List.findIdx?_cons]
    rw [hi, if_neg (by decide), lnT1]
theorem gs1 {t : Int} {l : LTB} {src : UInt32} (h : (tget (Dat.dflt : Int × ByteArray) l src).2 = true → (tget (Dat.dflt : Int × ByteArray) l src).1 = (0, .empty)) : gs [L1 t] 0 0 l t src [] = fin l src 0 .empty := by
  have hl := lnS1 (t := t) (l := l) (src := src) (fun h2 => by rw [h h2])
  unfold gs; rw [hl, if_neg (by simp)]
  unfold gs2; rw [if_neg (by simp [fx])]
  split
  · rename_i h2; rw [h h2.1]
  · rfl
theorem full_in {t : Int} {kn : List UInt16} {s : UInt16} (h : s ∈ kn) : gs [L1 t] 0 0 (kt kn) t s.toUInt32 [] = (0, .empty, 0) ∧ rt (0, .empty, 0) (kt kn) s.toUInt32 = kt kn := by
  obtain ⟨k, hk, hx, hg⟩ := kt_in h
  refine ⟨?_, ?_⟩
  · rw [gs1 (fun _ => by rw [hg]), fin, hg, if_neg (by simp)]
  · show (tput 32 _ _ _).1 = _
    rw [tput_some hk]
    show (kt kn).set k _ = _
    apply List.ext_getElem?
    intro i
    rw [List.getElem?_set]
    split
    · rename_i e; subst e
      have := (List.getElem?_eq_some_iff.1 hx).1
      rw [if_pos this, hx]
    · rfl
theorem full_no {t : Int} {kn : List UInt16} {s : UInt16} (h : s ∉ kn) (hl : kn.length ≤ 32) : gs [L1 t] 0 0 (kt kn) t s.toUInt32 [] = (if kn.length < 32 then (0, .empty, 0) else (0, .empty, 6)) ∧ (kn.length < 32 → rt (0, .empty, 0) (kt kn) s.toUInt32 = kt (kn ++ [s])) := by
  have hf := kt_no h
  have hg := Fi_none hf (Dat.dflt : Int × ByteArray)
  refine ⟨?_, fun h2 => ?_⟩
  · rw [gs1 (fun h2 => by rw [hg] at h2; cases h2), fin, hg, kt_len]
    by_cases h2 : kn.length < 32
    · rw [if_pos h2, if_neg (by simp; omega)]
    · rw [if_neg h2, if_pos ⟨rfl, by omega⟩]
  · show (tput 32 _ _ _).1 = _
    rw [tput_new hf (by rw [kt_len]; omega)]
    simp [kt]
end dm
end Go.Proofs.Ytmdahgmlccmdoaa
