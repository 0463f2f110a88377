/- slices.Clone and slices.Delete at one element type: contracts. (int32: the type's name in the functions' names, []int32 the slice type, int32 the element's) -/
import Derived.Test.YtdfncmfjlibidaaChecked
import Derived.Test.YtdfncmfjlibidaaLib
import Derived.WalkLawsBesides
import Derived.WalkSpells
import Derived.Handy
import Derived.StillTailTactics
import Derived.Deep.QuietTactic
import Derived.BigQuiet
namespace Go.Proofs.Ytdfncmfjlibidaa.I32
set_option linter.unusedVariables false
open Go.ChangeShapes Go.WideShapes Go.ChangeAt Go.RowKit

theorem elt : Elt Try.prog 29 21 1 4 (.int .i32 0) := ⟨Try.underlying29, by kernel_rfl, rfl, by decide, by simp [Value.cells, Value.oneCell']⟩
theorem nilT (w : World) (a : Option Addr) (n c n' c' : Nat) : (binOp .eql 29 (.slice a n c) (.slice none n' c')).run Try.prog w = .ok (.bool a.isNone) w :=
  Lib.run_eql_slice_nil w _ _ a n c n' c' Try.underlying29
attribute [local go_sem] nilT

theorem clone_calls (v : Value) (n : Nat) (cs : List Value) (w : World) (h : Rd w 1 v n cs) (hn : n * 4 ≤ 140737488355328) (hm : n ≤ maxLen) :
    Calls Try.prog 45 #[v] w fun e w' => ∃ v', e = .returned v' ∧ Own w' 21 1 v' n cs ∧ Fr [] w w' ∧ (∀ k ∈ own v', w.heap.size ≤ k) := by
  obtain ⟨a, cap, hv, h1, h2, h3, h4⟩ := h.val
  cases a with
  | none =>
    obtain ⟨rfl, rfl⟩ := h3 rfl
    subst hv
    obtain rfl : cs = [] := List.eq_nil_of_length_eq_zero (by simpa using h.len)
    clear h h3 h4
    go_enter Try.func45, Try.ntmps45
    go_wp2
    go_ret
    exact ⟨_, rfl, Own.nil _ _ _, Fr.refl _ _, by simp [own]⟩
  | some b =>
    subst hv
    have H := Lib.hid h
    have H1 := Lib.hid hn
    have H2 := Lib.hid hm
    clear h h3 h4 hn hm
    go_enter Try.func45, Try.ntmps45
    go_wp2_with (at_builtin; refine wpList_app rfl _ _ 29 29 rfl elt (Own.new w 21 1 0 #[] rfl (by simp) (by simp [maxLen])) rfl ((H.out.kept ((Fr.refl [] w).alloc _) (by simp)).src Try.underlying29) (by have := H2.out; omega) (by have := H1.out; omega) ?_; intro v' w' ho hf hw hnil)
    go_ret
    refine ⟨_, rfl, by simpa using ho, ?_, ?_⟩
    · exact ((Fr.refl [] w).alloc _).trans hf (by simp [own]; omega)
    · intro k hk
      have := hw k hk
      simp [own] at this
      omega

set_option maxRecDepth 100000 in
set_option maxHeartbeats 400000 in
/-- one element taken out -/
theorem delete_calls (g off n cap : Nat) (cs : List Value) (i : Int) (j : Int) (w : World) (hO : Own w 21 1 (.slice (some ⟨g, off, none⟩) n cap) n cs) (h0 : 0 ≤ i) (hi : i < n) (hj : j = i + 1) :
    Calls Try.prog 43 #[.slice (some ⟨g, off, none⟩) n cap, .int .i64 i, .int .i64 j] w fun e w' => e = .returned (.slice (some ⟨g, off, none⟩) (n - 1) cap) ∧ Own w' 21 1 (.slice (some ⟨g, off, none⟩) (n - 1) cap) (n - 1) (cs.take (i.toNat * 1) ++ cs.drop ((i.toNat + 1) * 1)) ∧ Fr [g] w w' := by
  obtain ⟨i, rfl⟩ := Int.eq_ofNat_of_zero_le h0
  obtain rfl : j = ((i + 1 : Nat) : Int) := by omega
  obtain ⟨a, cap', hv, hnc, hcm⟩ := hO.shape
  cases hv
  have hsm : cap ≤ 9223372036854775807 := by simp only [maxLen] at hcm; omega
  obtain ⟨m, rfl⟩ : ∃ m, n = m + 1 := ⟨n - 1, by omega⟩
  simp only [Nat.add_sub_cancel]
  have hin : i ≤ m := by omega
  have H := Lib.hid hO
  clear hO hcm h0 hj hi
  have hne : ¬ m + 1 = i := by omega
  have hc0 : ¬ cap = 0 := by omega
  have hb : ((i : Int) == ((i + 1 : Nat) : Int)) = false := by rw [beq_eq_false_iff_ne]; omega
  simp only [Int.toNat_natCast]
  go_enter Try.func43, Try.ntmps43
  go_wp2_with fail
  have q1 : i ≤ cap := by omega
  have q2 : i + 1 ≤ cap := by omega
  have q3 : i + 1 ≤ m + 1 := by omega
  have q4 : (0 : Int) ≤ (i : Int) + 1 := by omega
  have q5 : (i : Int) + 1 ≤ (m : Int) + 1 := by omega
  have q6 : (i : Int) + 1 ≤ cap := by omega
  go_still_tail 6, (by kernel_rfl)
  have hx := ((H.out.drew.rd.drop (k := i + 1) (by omega)).src (P := Try.prog) Try.underlying29)
  have hown := H.out.drew.take (k := i) (by omega)
  simp only [takeV] at hown
  have ex : dropV (.slice (some ⟨g, off, none⟩) (m + 1) cap) (i + 1) 1 = .slice (if cap = i + 1 then some ⟨g, off, none⟩ else some ⟨g, off + (i + 1) * 1, none⟩) (m - i) (cap - (i + 1)) := by simp [dropV, Addr.add_lit]
  have ed : m + 1 - (i + 1) = m - i := by omega
  simp only [ex, ed, Nat.mul_one] at hx
  have HX := Lib.hid hx
  have HO := Lib.hid hown
  clear hx hown ex ed
  refine wpList_app_fits rfl _ _ 29 29 rfl elt HO.out rfl HX.out (by omega) ?_
  intro w1 ho1 hf1
  have eL : i + (m - i) = m := by omega
  rw [eL] at ho1 ⊢
  obtain ⟨arr, hb1, hsz1⟩ : ∃ arr, Blk w1 g arr 21 ∧ off + cap * 1 ≤ arr.size := by
    rcases ho1.val with ⟨hv, _⟩ | ⟨g', off', cap', arr, hv, hb1, _, _, e3, _⟩
    · cases hv
    · cases hv
      exact ⟨arr, hb1, e3⟩
  have hfin : Own (w1.setCells g (off + m * 1) (Builtin.zeroCells (Value.cells (.int .i32 0)) 1).toList) 21 1 (.slice (some ⟨g, off, none⟩) m cap) m (cs.take (i * 1) ++ cs.drop ((i + 1) * 1)) ∧ Fr [g] w (w1.setCells g (off + m * 1) (Builtin.zeroCells (Value.cells (.int .i32 0)) 1).toList) := by
    have hl : (Builtin.zeroCells (Value.cells (.int .i32 0)) 1).toList.length = 1 := by simp [size_zeroCells, Value.cells]
    refine ⟨?_, Fr.setCells _ _ _ (show Fr [g] w w1 from ⟨hf1.os, hf1.tape, hf1.output, hf1.size, hf1.block⟩) (by simp)⟩
    have := ho1.beyond (Builtin.zeroCells (Value.cells (.int .i32 0)) 1).toList (off + m * 1) (Nat.le_refl _) (by rw [hl]; omega)
    simpa using this
  have H1 := Lib.hid hfin
  have H3 := Lib.hid hb1
  have H4 := Lib.hid hsz1
  clear ho1 hf1 eL hb1 hsz1 hfin
  simp only [Nat.mul_one, Value.cells] at H1
  have q7 : m ≤ cap := by omega
  have q8 : m + 1 ≤ cap := by omega
  have q9 : ¬ cap = m := by omega
  have q10 : (m : Int) + 1 ≤ cap := by omega
  have q11 : (m : Int) ≤ (m : Int) + 1 := by omega
  go_wp2_with (refine wpList_clear (o := ⟨none, _, _, _, _, _⟩) rfl _ 29 rfl elt H3.out rfl (by have := H4.out; omega) ?_)
  all_goals
    go_ret
    first
      | exact ⟨rfl, H1.out⟩
      | (have hcap : cap = i + 1 := by assumption
         subst hcap
         exact ⟨rfl, H1.out⟩)
end Go.Proofs.Ytdfncmfjlibidaa.I32
