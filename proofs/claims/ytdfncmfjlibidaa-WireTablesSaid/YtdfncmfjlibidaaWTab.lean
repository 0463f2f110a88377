/- wire: the statement on tables. -/
import Derived.Test.YtdfncmfjlibidaaWKeep
namespace Go.Proofs.Ytdfncmfjlibidaa
set_option linter.unusedVariables false
set_option linter.unusedSimpArgs false
open Go.RowKit
namespace wi
--FACTS
abbrev ET := ByteArray × J32
abbrev CT := Int × (ByteArray × J32)
theorem Fi_s {l : List ET} {q : ByteArray} {j : Nat} {x : ET} (hx : l[j]? = some x) (hn : (l.map Prod.fst).Nodup) : Fi (l.take (j + 1)) q = if x.1 == q then some j else Fi (l.take j) q := by
  have hj := (List.getElem?_eq_some_iff.1 hx).1
  have hl : (l.take j).length = j := by rw [List.length_take]; omega
  rw [List.take_add_one, hx]
  show List.findIdx? _ (l.take j ++ [x]) = _
  rw [List.findIdx?_append]
  by_cases hq : x.1 == q
  · have hno : (l.take j).findIdx? (fun e => e.1 == q) = none := by
      rw [List.findIdx?_eq_none_iff]
      intro y hy
      have hne : y.1 ≠ x.1 := by
        intro e
        obtain ⟨i, hi, rfl⟩ := List.mem_iff_getElem.1 hy
        rw [List.getElem_take] at e
        have h1 : (l.map Prod.fst)[i]? = some x.1 := by rw [List.getElem?_map, List.getElem?_eq_getElem (by omega)]; simp [e]
        have h2 : (l.map Prod.fst)[j]? = some x.1 := by rw [List.getElem?_map, hx]; rfl
        have := (List.getElem?_inj (by simp; omega) hn).1 (h1.trans h2.symm)
        omega
      have : x.1 = q := by simpa using hq
      subst this; simpa using hne
    rw [hno, if_pos hq]; simp [hq, hl]
  · rw [if_neg hq]; unfold Fi; simp [hq]
theorem set_fst {l : List ET} {j : Nat} {q : ByteArray} {y x : J32} (hx : l[j]? = some (q, y)) : (l.set j (q, x)).map Prod.fst = l.map Prod.fst := by
  rw [set_at _ hx]; conv => rhs; rw [split_at hx]
  simp
theorem set_snd {l : List ET} {j : Nat} {q : ByteArray} {y x : J32} (hx : l[j]? = some (q, y)) : (Dat.cs (l.map Prod.snd)).set j (.int .i32 x.n) = Dat.cs ((l.set j (q, x)).map Prod.snd) := by
  show ((l.map Prod.snd).map _).set j _ = ((l.set j (q, x)).map Prod.snd).map _
  rw [List.map_set, List.map_set]
theorem tput_fit {M : Nat} {l : List ET} {q : ByteArray} {x : J32} (hl : l.length ≤ M) : (tput M l q x).2 = ((Fi l q).isSome || decide (l.length < M)) := by
  cases h : Fi l q with
  | some k => rw [tput_some h]; rfl
  | none =>
    by_cases hm : l.length = M
    · rw [tput_full h hm]; simp; omega
    · rw [tput_new h hm]; simp; omega
theorem nodup_put {M : Nat} {l : List ET} {q : ByteArray} {x : J32} (hn : (l.map Prod.fst).Nodup) : ((tput M l q x).1.map Prod.fst).Nodup := by
  cases h : Fi l q with
  | some k => obtain ⟨hk, y, hy, -⟩ := Fi_some h; rw [tput_some h]; show ((l.set k (q, x)).map Prod.fst).Nodup; rw [set_fst hy]; exact hn
  | none =>
    by_cases hm : l.length = M
    · rw [tput_full h hm]; exact hn
    · rw [tput_new h hm]
      show ((l ++ [(q, x)]).map Prod.fst).Nodup
      rw [List.map_append, List.nodup_append]
      refine ⟨hn, by simp, ?_⟩
      intro a ha b hb e
      simp at hb; subst hb; subst e
      obtain ⟨y, hy, he⟩ := List.mem_map.1 ha
      have := List.findIdx?_eq_none_iff.1 h y hy
      simp [he] at this
theorem erase_map {α : Type} (f : ET → α) (l : List ET) (k : Nat) : (l.eraseIdx k).map f = (l.map f).eraseIdx k := by
  rw [List.eraseIdx_eq_take_drop_succ, List.eraseIdx_eq_take_drop_succ]; simp [List.map_take, List.map_drop]
theorem nodup_drop {l : List ET} {q : ByteArray} (hn : (l.map Prod.fst).Nodup) : ((tdrop l q).1.map Prod.fst).Nodup := by
  unfold tdrop; split
  · rw [erase_map]; exact hn.eraseIdx _
  · exact hn
theorem tdrop_le' {l : List ET} {q : ByteArray} {most : Nat} (h : l.length ≤ most) : (tdrop l q).1.length ≤ most := by
  unfold tdrop; split
  · rw [List.length_eraseIdx]; split <;> omega
  · exact h
theorem cut_fst {α : Type} [Dat α] (f : ET → α) (hs : Dat.sz α = 1) (l : List ET) (k : Nat) (hk : k < l.length) : ([] : List Value) ++ (Dat.cs (l.map f)).take (k * 1) ++ ((Dat.cs (l.map f)).drop ((k + 1) * 1)).take ((l.length - (k + 1)) * 1) = Dat.cs ((l.eraseIdx k).map f) := by
  rw [List.take_of_length_le (l := (Dat.cs (l.map f)).drop _) (by rw [List.length_drop, Dat.cs_len, hs, List.length_map]; omega), List.nil_append, erase_map, List.eraseIdx_eq_take_drop_succ, Dat.cs_app, Dat.cs_take, Dat.cs_drop, hs]
theorem erase_len {l : List ET} {k : Nat} (hk : k < l.length) : 0 + k + (l.length - (k + 1)) = (l.eraseIdx k).length := by rw [List.length_eraseIdx, if_pos hk]; omega
theorem isS (r : Option Nat) : decide (0 ≤ iv r) = r.isSome := by cases r <;> simp [iv]
theorem get_facts {l : List ET} {q : ByteArray} {r : Option Nat} {v : J32} {ok : Bool} (hr : r = Fi l q) (hv : tget ⟨0⟩ l q = (v, ok)) : ok = r.isSome ∧ (ok = false → v = ⟨0⟩) ∧ ∀ j, r = some j → j < l.length ∧ (l.map Prod.snd)[j]? = some v := by
  subst hr
  cases h : Fi l q with
  | some k =>
    obtain ⟨hk, y, hy, hg⟩ := Fi_some h
    rw [hg] at hv
    obtain ⟨rfl, rfl⟩ := Prod.mk.inj hv
    refine ⟨rfl, fun h => (by cases h), fun j hj => ?_⟩
    obtain rfl := Option.some.inj hj
    exact ⟨hk, by rw [List.getElem?_map, hy]; rfl⟩
  | none =>
    rw [Fi_none h] at hv
    obtain ⟨rfl, rfl⟩ := Prod.mk.inj hv
    exact ⟨rfl, fun _ => rfl, fun j hj => by cases hj⟩
theorem drop_fit {l : List ET} {q : ByteArray} {r : Option Nat} (hr : r = Fi l q) : (tdrop l q).2 = r.isSome := by
  rw [hr]; unfold tdrop; cases Fi l q <;> rfl
abbrev KO (a : Option Addr) (c : Nat) (l : List ET) : SA := SA.owns 9 1 (.slice a l.length c) l.length (Dat.cs (l.map Prod.fst))
abbrev VO (a : Option Addr) (c : Nat) (l : List ET) : SA := SA.owns 21 1 (.slice a l.length c) l.length (Dat.cs (l.map Prod.snd))
end wi
end Go.Proofs.Ytdfncmfjlibidaa
