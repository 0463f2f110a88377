/- Ring.All: its closure's contract as an iterator. -/
import Derived.Test.YtdfncmfjlibidaaRingI32
import Derived.Test.YtdfncmfjlibidaaRangeF
import Derived.Shelf.Abstract
import Derived.Shelf.RegionOpen
import Derived.OwnWalkIn
import Derived.TacticsInMore
import Derived.LoopNIn
import Derived.LoopIn
namespace Go.Proofs.Ytdfncmfjlibidaa.I32
set_option linter.unusedVariables false
open Go.ChangeShapes Go.WideShapes Go.ChangeAt Go.RowKit Go.Shelf
attribute [local go_sem] Oper.semAt_some nilT

theorem all_calls (r : Nat) (w : World) :
    Calls Try.prog 18 #[.pointer (some ⟨r, 0, none⟩)] w fun e w' => e = .returned (.func (.func 44) #[] #[.pointer (some ⟨w.heap.size, 0, none⟩)]) ∧ w' = w.alloc (.cells #[.pointer (some ⟨r, 0, none⟩)] 30) := by
  go_enter Try.func18, Try.ntmps18
  go_wp2
  go_ret
  exact ⟨rfl, rfl⟩

/-- what the i-th round is handed -/
def item (cs : List Value) (i : Nat) : Value := cs[i]?.getD undef

set_option maxRecDepth 100000 in
set_option maxHeartbeats 2000000 in
theorem all_iter (r p : Nat) (O : List Nat) (most n : Nat) (cs : List Value) (w : World) (hbox : Blk w p #[.pointer (some ⟨r, 0, none⟩)] 30) (h : RingAt w r O most n cs) (hb : n * 4 ≤ 140737488355328) :
    IterC Try.prog 44 #[.pointer (some ⟨p, 0, none⟩)] n (fun i => #[.int .i64 (i : Int), item cs i]) w := by
  intro m L W J Jx hF h0 hY
  obtain ⟨v, hB, hO, -⟩ := h
  obtain ⟨a, c, hv, hnc, hcm⟩ := hO.shape
  have hB' := hF.blk hB (by simp)
  have hbox' := hF.blk hbox (by simp)
  have hO' := hO.kept hF (by simp)
  subst hv
  have c1 : W.cell? ⟨r, 1, none⟩ = some (.slice a n c) := hB'.cell 1
  have c0 : W.cell? ⟨p, 0, none⟩ = some (.pointer (some ⟨r, 0, none⟩)) := hbox'.cell 0
  have hnm : n ≤ maxLen := by omega
  have hns : n ≤ 9223372036854775807 := by simp only [maxLen] at hnm; omega
  have hcl := clone_calls (.slice a n c) n cs W hO'.rd hb hnm
  have HC := Lib.hid hcl; have H0 := Lib.hid h0; have HY := Lib.hid hY
  clear hB hO hB' hbox' hO' hcm hcl h0 hY hbox hF hb hnm hnc
  refine callsIn_of_wp Try.func44 rfl trivial ?_ rfl
  simp only [Try.ntmps44, List.size_toArray, List.length_cons, List.length_nil, Nat.reduceAdd, Nat.reduceSub, Array.replicate_succ, Array.replicate_zero, List.push_toArray, List.append_toArray, List.nil_append, List.cons_append]
  gi_wp2_with fail
  refine ⟨trivial, fun h => by simp [Fence.wide] at h, (callsIn_wide.2 HC.out).mono ?_⟩
  rintro e w1 ⟨v1, rfl, ho, hf, hk⟩
  obtain ⟨a1, cap1, hv1, hc1, hc2⟩ := ho.shape
  have hJ0 := H0.out w1 (own v1) hf (fun k hk' => ⟨hk k hk', ho.lt k hk'⟩)
  have HO := Lib.hid ho
  subst hv1
  clear ho hf hk hc2 HC H0
  gi_wp2_with fail
  gi_loopw [13] (fun i wr => ∃ k : Nat, k ≤ n ∧ i = .int .i64 k ∧ J k (own (.slice a1 n cap1)) wr ∧ Own wr 21 1 (.slice a1 n cap1) n cs)
    (fun i _ => n - (intOf i).toNat)
  case atStart => exact ⟨0, Nat.zero_le _, rfl, hJ0, HO.out⟩
  case round =>
    obtain ⟨k, hk, rfl, hJs, hO⟩ := hrel
    have HJ := Lib.hid hJs; have HOk := Lib.hid hO
    clear hJ0 HO
    by_cases hlt : k < n
    · obtain ⟨fn, tmps, assign, body, hy, hR⟩ := HY.out _ k wr hlt hJs
      obtain ⟨g, off, cap', hv, -⟩ := hO.pos (by omega)
      cases hv
      have hl := hO.len
      have hcx : wr.cell? ⟨g, off + k, none⟩ = some (cs[k]?.getD undef) := by
        refine hO.cells rfl k _ ?_
        rw [List.getElem?_eq_getElem (by omega)]; rfl
      have HR := Lib.hid hR
      clear hJs hO hR hl
      simp only [item] at hy
      gi_wp2
      refine ⟨fun h => by simp [Fence.wide] at h, HR.out.mono ?_⟩
      rintro e W3 (⟨rfl, hJ3, hs3⟩ | ⟨rfl, hJx3⟩)
      · have X1 := Lib.hid hJ3; have X2 := Lib.hid (HOk.out.same hs3)
        clear hJ3 hs3 hcx hy
        gi_wp2
        go_roundw
        case rel => exact ⟨k + 1, by omega, by go_num, X1.out, X2.out⟩
        case measure => simp [intOf]; omega
      · have X1 := Lib.hid hJx3
        clear hJx3 hcx hy
        gi_wp2
        refine bodyPost_ret (results_none rfl _ _ _) rfl ?_
        exact ⟨⟨_, rfl⟩, _, .inr ⟨k + 1, by omega, by omega, X1.out⟩⟩
    · obtain rfl : k = n := by omega
      clear hJs hO
      gi_wp2
      go_end0
      exact ⟨⟨_, rfl⟩, _, .inl HJ.out⟩
end Go.Proofs.Ytdfncmfjlibidaa.I32
